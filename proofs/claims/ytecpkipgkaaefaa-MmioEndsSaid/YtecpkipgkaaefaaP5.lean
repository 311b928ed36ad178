/- Parts of the walks and laws for the claim: DecC; no conditions beyond the theorems' own. -/
import Derived.Test.YtecpkipgkaaefaaP2
import Derived.Test.YtecpkipgkaaefaaP4
section
namespace Go.Proofs.Ytecpkipgkaaefaa.Enc
open Go Go.RowKit Go.Proofs.Ytecpkipgkaaefaa.Step
set_option linter.unusedVariables false
set_option linter.unusedSimpArgs false
set_option maxRecDepth 100000
theorem system_11 (w : World) : Calls Try.prog 37 #[.int .u32 115] w fun e w' => e = .returned (.tuple #[.agg #[.int .i64 11, .int .i64 0, .int .i64 0, .int .i64 0, .int .i64 0, .int .i64 0, .int .i64 0, .bool false], .bool true]) ∧ Below w.heap.size w w' := by
  go_enter Try.func37, Try.ntmps37
  go_wp2_with (first
    | ((with_reducible refine Step.gate_alloc (t := 41) rfl ?_); refine Step.freshAlloc rfl rfl (alloc_agg zero_inst) ?_; intro g1 w1 b hg hb; have ST := Lib.hid (S1.made b hg hb); clear b hg hb)
    | ((with_reducible refine Step.gate_store (t := 3) rfl ?_); refine Step.store ST.out.one rfl rfl rfl rfl rfl pl_int rfl rfl ?_; intro w3 nb m; have st_ := Lib.hid (ST.out.set1 nb m); clear ST nb m; have ST := st_)
    | ((with_reducible refine Step.gate_store (t := 4) rfl ?_); refine Step.store ST.out.one rfl rfl rfl rfl rfl pl_bool rfl rfl ?_; intro w3 nb m; have st_ := Lib.hid (ST.out.set1 nb m); clear ST nb m; have ST := st_)
    | ((with_reducible refine Step.gate_store (t := 41) rfl ?_); refine Step.storeAll ST.out.one rfl rfl rfl rfl rfl size_inst rfl rfl ?_; intro w3 nb m; have st_ := Lib.hid (ST.out.set1 nb m); clear ST nb m; have ST := st_)
    | ((with_reducible refine Step.gate_load (t := 3) rfl ?_); refine Step.load ST.out.one rfl rfl rfl pl_int rfl ?_)
    | ((with_reducible refine Step.gate_load (t := 4) rfl ?_); refine Step.load ST.out.one rfl rfl rfl pl_bool rfl ?_)
    | ((with_reducible refine Step.gate_load (t := 41) rfl ?_); refine Step.loadAll ST.out.one rfl rfl rfl Try.underlying41 rfl size_inst ?_))
  refine bodyPost_ret (results_row_tmp rfl _ _ g1 _ _ _ rfl ST.out.one Try.underlying41 rfl size_inst) rfl ⟨rfl, ST.out.below⟩
theorem system_12 (w : World) : Calls Try.prog 37 #[.int .u32 1048691] w fun e w' => e = .returned (.tuple #[.agg #[.int .i64 12, .int .i64 0, .int .i64 0, .int .i64 0, .int .i64 0, .int .i64 0, .int .i64 0, .bool false], .bool true]) ∧ Below w.heap.size w w' := by
  go_enter Try.func37, Try.ntmps37
  go_wp2_with (first
    | ((with_reducible refine Step.gate_alloc (t := 41) rfl ?_); refine Step.freshAlloc rfl rfl (alloc_agg zero_inst) ?_; intro g1 w1 b hg hb; have ST := Lib.hid (S1.made b hg hb); clear b hg hb)
    | ((with_reducible refine Step.gate_store (t := 3) rfl ?_); refine Step.store ST.out.one rfl rfl rfl rfl rfl pl_int rfl rfl ?_; intro w3 nb m; have st_ := Lib.hid (ST.out.set1 nb m); clear ST nb m; have ST := st_)
    | ((with_reducible refine Step.gate_store (t := 4) rfl ?_); refine Step.store ST.out.one rfl rfl rfl rfl rfl pl_bool rfl rfl ?_; intro w3 nb m; have st_ := Lib.hid (ST.out.set1 nb m); clear ST nb m; have ST := st_)
    | ((with_reducible refine Step.gate_store (t := 41) rfl ?_); refine Step.storeAll ST.out.one rfl rfl rfl rfl rfl size_inst rfl rfl ?_; intro w3 nb m; have st_ := Lib.hid (ST.out.set1 nb m); clear ST nb m; have ST := st_)
    | ((with_reducible refine Step.gate_load (t := 3) rfl ?_); refine Step.load ST.out.one rfl rfl rfl pl_int rfl ?_)
    | ((with_reducible refine Step.gate_load (t := 4) rfl ?_); refine Step.load ST.out.one rfl rfl rfl pl_bool rfl ?_)
    | ((with_reducible refine Step.gate_load (t := 41) rfl ?_); refine Step.loadAll ST.out.one rfl rfl rfl Try.underlying41 rfl size_inst ?_))
  refine bodyPost_ret (results_row_tmp rfl _ _ g1 _ _ _ rfl ST.out.one Try.underlying41 rfl size_inst) rfl ⟨rfl, ST.out.below⟩
theorem system_18 (w : World) : Calls Try.prog 37 #[.int .u32 270532723] w fun e w' => e = .returned (.tuple #[.agg #[.int .i64 18, .int .i64 0, .int .i64 0, .int .i64 0, .int .i64 0, .int .i64 0, .int .i64 0, .bool false], .bool true]) ∧ Below w.heap.size w w' := by
  go_enter Try.func37, Try.ntmps37
  go_wp2_with (first
    | ((with_reducible refine Step.gate_alloc (t := 41) rfl ?_); refine Step.freshAlloc rfl rfl (alloc_agg zero_inst) ?_; intro g1 w1 b hg hb; have ST := Lib.hid (S1.made b hg hb); clear b hg hb)
    | ((with_reducible refine Step.gate_store (t := 3) rfl ?_); refine Step.store ST.out.one rfl rfl rfl rfl rfl pl_int rfl rfl ?_; intro w3 nb m; have st_ := Lib.hid (ST.out.set1 nb m); clear ST nb m; have ST := st_)
    | ((with_reducible refine Step.gate_store (t := 4) rfl ?_); refine Step.store ST.out.one rfl rfl rfl rfl rfl pl_bool rfl rfl ?_; intro w3 nb m; have st_ := Lib.hid (ST.out.set1 nb m); clear ST nb m; have ST := st_)
    | ((with_reducible refine Step.gate_store (t := 41) rfl ?_); refine Step.storeAll ST.out.one rfl rfl rfl rfl rfl size_inst rfl rfl ?_; intro w3 nb m; have st_ := Lib.hid (ST.out.set1 nb m); clear ST nb m; have ST := st_)
    | ((with_reducible refine Step.gate_load (t := 3) rfl ?_); refine Step.load ST.out.one rfl rfl rfl pl_int rfl ?_)
    | ((with_reducible refine Step.gate_load (t := 4) rfl ?_); refine Step.load ST.out.one rfl rfl rfl pl_bool rfl ?_)
    | ((with_reducible refine Step.gate_load (t := 41) rfl ?_); refine Step.loadAll ST.out.one rfl rfl rfl Try.underlying41 rfl size_inst ?_))
  refine bodyPost_ret (results_row_tmp rfl _ _ g1 _ _ _ rfl ST.out.one Try.underlying41 rfl size_inst) rfl ⟨rfl, ST.out.below⟩
theorem system_19 (w : World) : Calls Try.prog 37 #[.int .u32 273678451] w fun e w' => e = .returned (.tuple #[.agg #[.int .i64 19, .int .i64 0, .int .i64 0, .int .i64 0, .int .i64 0, .int .i64 0, .int .i64 0, .bool false], .bool true]) ∧ Below w.heap.size w w' := by
  go_enter Try.func37, Try.ntmps37
  go_wp2_with (first
    | ((with_reducible refine Step.gate_alloc (t := 41) rfl ?_); refine Step.freshAlloc rfl rfl (alloc_agg zero_inst) ?_; intro g1 w1 b hg hb; have ST := Lib.hid (S1.made b hg hb); clear b hg hb)
    | ((with_reducible refine Step.gate_store (t := 3) rfl ?_); refine Step.store ST.out.one rfl rfl rfl rfl rfl pl_int rfl rfl ?_; intro w3 nb m; have st_ := Lib.hid (ST.out.set1 nb m); clear ST nb m; have ST := st_)
    | ((with_reducible refine Step.gate_store (t := 4) rfl ?_); refine Step.store ST.out.one rfl rfl rfl rfl rfl pl_bool rfl rfl ?_; intro w3 nb m; have st_ := Lib.hid (ST.out.set1 nb m); clear ST nb m; have ST := st_)
    | ((with_reducible refine Step.gate_store (t := 41) rfl ?_); refine Step.storeAll ST.out.one rfl rfl rfl rfl rfl size_inst rfl rfl ?_; intro w3 nb m; have st_ := Lib.hid (ST.out.set1 nb m); clear ST nb m; have ST := st_)
    | ((with_reducible refine Step.gate_load (t := 3) rfl ?_); refine Step.load ST.out.one rfl rfl rfl pl_int rfl ?_)
    | ((with_reducible refine Step.gate_load (t := 4) rfl ?_); refine Step.load ST.out.one rfl rfl rfl pl_bool rfl ?_)
    | ((with_reducible refine Step.gate_load (t := 41) rfl ?_); refine Step.loadAll ST.out.one rfl rfl rfl Try.underlying41 rfl size_inst ?_))
  refine bodyPost_ret (results_row_tmp rfl _ _ g1 _ _ _ rfl ST.out.one Try.underlying41 rfl size_inst) rfl ⟨rfl, ST.out.below⟩
theorem system_f0 (a : Int) (ha : W32 a) (n0 : a ≠ 115) (n1 : a ≠ 1048691) (n2 : a ≠ 270532723) (n3 : a ≠ 273678451) (h0 : fd a 14 12 = 0) (w : World) : Calls Try.prog 37 #[.int .u32 a] w fun e w' => e = .returned (.tuple #[.agg #[.int .i64 20, .int .i64 0, .int .i64 0, .int .i64 (fd a 19 15), .int .i64 (fd a 24 20), .int .i64 0, .int .i64 0, .bool false], .bool ((fd a 31 25 == 9) && (fd a 11 7 == 0))]) ∧ Below w.heap.size w w' := by
  have T0 := Lib.hid (fun w => calls_below (f3_any a ha w))
  have T1 := Lib.hid (fun w => calls_below (rd_any a ha w))
  have T2 := Lib.hid (fun w => calls_below (rs1_any a ha w))
  have T3 := Lib.hid (fun w => calls_below (rs2_any a ha w))
  have T4 := Lib.hid (fun w => calls_below (f7_any a ha w))
  rw [h0] at T0
  clear h0
  generalize fd a 11 7 = rd at *
  generalize fd a 19 15 = rs1 at *
  generalize fd a 24 20 = rs2 at *
  generalize fd a 31 25 = s at *
  by_cases h9 : s = 9
  · subst h9
    go_enter Try.func37, Try.ntmps37
    go_wp2_with (first
      | (go_at_call 36; (with_reducible refine (T0.out _).mono ?_); rintro e w' ⟨rfl, hb⟩; (try (have pb_ := Lib.hid (PB.out.below hb); clear PB; have PB := pb_)); have st_ := Lib.hid (ST.out.call hb); clear ST hb; have ST := st_)
      | (go_at_call 40; (with_reducible refine (T1.out _).mono ?_); rintro e w' ⟨rfl, hb⟩; (try (have pb_ := Lib.hid (PB.out.below hb); clear PB; have PB := pb_)); have st_ := Lib.hid (ST.out.call hb); clear ST hb; have ST := st_)
      | (go_at_call 41; (with_reducible refine (T2.out _).mono ?_); rintro e w' ⟨rfl, hb⟩; (try (have pb_ := Lib.hid (PB.out.below hb); clear PB; have PB := pb_)); have st_ := Lib.hid (ST.out.call hb); clear ST hb; have ST := st_)
      | (go_at_call 42; (with_reducible refine (T3.out _).mono ?_); rintro e w' ⟨rfl, hb⟩; (try (have pb_ := Lib.hid (PB.out.below hb); clear PB; have PB := pb_)); have st_ := Lib.hid (ST.out.call hb); clear ST hb; have ST := st_)
      | (go_at_call 46; (with_reducible refine (T4.out _).mono ?_); rintro e w' ⟨rfl, hb⟩; (try (have pb_ := Lib.hid (PB.out.below hb); clear PB; have PB := pb_)); have st_ := Lib.hid (ST.out.call hb); clear ST hb; have ST := st_)
      | ((with_reducible refine Step.gate_alloc (t := 41) rfl ?_); refine Step.freshAlloc rfl rfl (alloc_agg zero_inst) ?_; intro g1 w1 b hg hb; have ST := Lib.hid (S1.made b hg hb); clear b hg hb)
      | ((with_reducible refine Step.gate_store (t := 3) rfl ?_); refine Step.store ST.out.one rfl rfl rfl rfl rfl pl_int rfl rfl ?_; intro w3 nb m; have st_ := Lib.hid (ST.out.set1 nb m); clear ST nb m; have ST := st_)
      | ((with_reducible refine Step.gate_store (t := 4) rfl ?_); refine Step.store ST.out.one rfl rfl rfl rfl rfl pl_bool rfl rfl ?_; intro w3 nb m; have st_ := Lib.hid (ST.out.set1 nb m); clear ST nb m; have ST := st_)
      | ((with_reducible refine Step.gate_store (t := 41) rfl ?_); refine Step.storeAll ST.out.one rfl rfl rfl rfl rfl size_inst rfl rfl ?_; intro w3 nb m; have st_ := Lib.hid (ST.out.set1 nb m); clear ST nb m; have ST := st_)
      | ((with_reducible refine Step.gate_load (t := 3) rfl ?_); refine Step.load ST.out.one rfl rfl rfl pl_int rfl ?_)
      | ((with_reducible refine Step.gate_load (t := 4) rfl ?_); refine Step.load ST.out.one rfl rfl rfl pl_bool rfl ?_)
      | ((with_reducible refine Step.gate_load (t := 41) rfl ?_); refine Step.loadAll ST.out.one rfl rfl rfl Try.underlying41 rfl size_inst ?_))
    refine bodyPost_ret (results_row_tmp rfl _ _ g1 _ _ _ rfl ST.out.one Try.underlying41 rfl size_inst) rfl ⟨rfl, ST.out.below⟩
  · have c9 : (s == 9) = false := beq_eq_false_iff_ne.2 h9
    rw [c9]
    go_enter Try.func37, Try.ntmps37
    go_wp2_with (first
      | (go_at_call 36; (with_reducible refine (T0.out _).mono ?_); rintro e w' ⟨rfl, hb⟩; (try (have pb_ := Lib.hid (PB.out.below hb); clear PB; have PB := pb_)); have st_ := Lib.hid (ST.out.call hb); clear ST hb; have ST := st_)
      | (go_at_call 40; (with_reducible refine (T1.out _).mono ?_); rintro e w' ⟨rfl, hb⟩; (try (have pb_ := Lib.hid (PB.out.below hb); clear PB; have PB := pb_)); have st_ := Lib.hid (ST.out.call hb); clear ST hb; have ST := st_)
      | (go_at_call 41; (with_reducible refine (T2.out _).mono ?_); rintro e w' ⟨rfl, hb⟩; (try (have pb_ := Lib.hid (PB.out.below hb); clear PB; have PB := pb_)); have st_ := Lib.hid (ST.out.call hb); clear ST hb; have ST := st_)
      | (go_at_call 42; (with_reducible refine (T3.out _).mono ?_); rintro e w' ⟨rfl, hb⟩; (try (have pb_ := Lib.hid (PB.out.below hb); clear PB; have PB := pb_)); have st_ := Lib.hid (ST.out.call hb); clear ST hb; have ST := st_)
      | (go_at_call 46; (with_reducible refine (T4.out _).mono ?_); rintro e w' ⟨rfl, hb⟩; (try (have pb_ := Lib.hid (PB.out.below hb); clear PB; have PB := pb_)); have st_ := Lib.hid (ST.out.call hb); clear ST hb; have ST := st_)
      | ((with_reducible refine Step.gate_alloc (t := 41) rfl ?_); refine Step.freshAlloc rfl rfl (alloc_agg zero_inst) ?_; intro g1 w1 b hg hb; have ST := Lib.hid (S1.made b hg hb); clear b hg hb)
      | ((with_reducible refine Step.gate_store (t := 3) rfl ?_); refine Step.store ST.out.one rfl rfl rfl rfl rfl pl_int rfl rfl ?_; intro w3 nb m; have st_ := Lib.hid (ST.out.set1 nb m); clear ST nb m; have ST := st_)
      | ((with_reducible refine Step.gate_store (t := 4) rfl ?_); refine Step.store ST.out.one rfl rfl rfl rfl rfl pl_bool rfl rfl ?_; intro w3 nb m; have st_ := Lib.hid (ST.out.set1 nb m); clear ST nb m; have ST := st_)
      | ((with_reducible refine Step.gate_store (t := 41) rfl ?_); refine Step.storeAll ST.out.one rfl rfl rfl rfl rfl size_inst rfl rfl ?_; intro w3 nb m; have st_ := Lib.hid (ST.out.set1 nb m); clear ST nb m; have ST := st_)
      | ((with_reducible refine Step.gate_load (t := 3) rfl ?_); refine Step.load ST.out.one rfl rfl rfl pl_int rfl ?_)
      | ((with_reducible refine Step.gate_load (t := 4) rfl ?_); refine Step.load ST.out.one rfl rfl rfl pl_bool rfl ?_)
      | ((with_reducible refine Step.gate_load (t := 41) rfl ?_); refine Step.loadAll ST.out.one rfl rfl rfl Try.underlying41 rfl size_inst ?_))
    refine bodyPost_ret (results_row_tmp rfl _ _ g1 _ _ _ rfl ST.out.one Try.underlying41 rfl size_inst) rfl ⟨rfl, ST.out.below⟩
set_option maxHeartbeats 2000000 in
theorem system_csr (a : Int) (ha : W32 a) (n0 : a ≠ 115) (n1 : a ≠ 1048691) (n2 : a ≠ 270532723) (n3 : a ≠ 273678451) (h0 : fd a 14 12 ≠ 0) (w : World) : Calls Try.prog 37 #[.int .u32 a] w fun e w' => e = .returned (.tuple #[.agg #[.int .i64 ((if fd a 14 12 < 4 then 13 else 14)), .int .i64 (pk ([0, 1, 2, 3, 0, 1, 2, 3] : List Int) (fd a 14 12)), .int .i64 (fd a 11 7), .int .i64 (fd a 19 15), .int .i64 0, .int .i64 (fd a 31 20), .int .i64 0, .bool false], .bool (pk ([0, 1, 2, 3, 0, 1, 2, 3] : List Int) (fd a 14 12) != 0)]) ∧ Below w.heap.size w w' := by
  have T0 := Lib.hid (fun w => calls_below (f3_any a ha w))
  have T1 := Lib.hid (fun w => calls_below (rd_any a ha w))
  have T2 := Lib.hid (fun w => calls_below (rs1_any a ha w))
  have T3 := Lib.hid (fun w => calls_below (rs2_any a ha w))
  have T4 := Lib.hid (fun w => calls_below (f7_any a ha w))
  have T5 := Lib.hid (fun w => calls_below (bits_any a 31 20 31 20 ha rfl rfl (by decide) (by decide) w))
  have HX := Lib.hid (fd_lit (a := a) (h := 14) (l := 12) (n := 8) rfl)
  generalize fd a 14 12 = x at *
  generalize fd a 11 7 = rd at *
  generalize fd a 19 15 = rs1 at *
  generalize fd a 24 20 = rs2 at *
  generalize fd a 31 25 = s at *
  generalize fd a 31 20 = m at *
  obtain h | h | h | h | h | h | h : x = 1 ∨ x = 2 ∨ x = 3 ∨ x = 4 ∨ x = 5 ∨ x = 6 ∨ x = 7 := by have := HX.out; omega
  · subst h
    go_enter Try.func37, Try.ntmps37
    go_wp2_with (first
      | (go_at_call 36; (with_reducible refine (T0.out _).mono ?_); rintro e w' ⟨rfl, hb⟩; (try (have pb_ := Lib.hid (PB.out.below hb); clear PB; have PB := pb_)); have st_ := Lib.hid (ST.out.call hb); clear ST hb; have ST := st_)
      | (go_at_call 40; (with_reducible refine (T1.out _).mono ?_); rintro e w' ⟨rfl, hb⟩; (try (have pb_ := Lib.hid (PB.out.below hb); clear PB; have PB := pb_)); have st_ := Lib.hid (ST.out.call hb); clear ST hb; have ST := st_)
      | (go_at_call 41; (with_reducible refine (T2.out _).mono ?_); rintro e w' ⟨rfl, hb⟩; (try (have pb_ := Lib.hid (PB.out.below hb); clear PB; have PB := pb_)); have st_ := Lib.hid (ST.out.call hb); clear ST hb; have ST := st_)
      | (go_at_call 42; (with_reducible refine (T3.out _).mono ?_); rintro e w' ⟨rfl, hb⟩; (try (have pb_ := Lib.hid (PB.out.below hb); clear PB; have PB := pb_)); have st_ := Lib.hid (ST.out.call hb); clear ST hb; have ST := st_)
      | (go_at_call 46; (with_reducible refine (T4.out _).mono ?_); rintro e w' ⟨rfl, hb⟩; (try (have pb_ := Lib.hid (PB.out.below hb); clear PB; have PB := pb_)); have st_ := Lib.hid (ST.out.call hb); clear ST hb; have ST := st_)
      | ((with_reducible refine Step.gate_alloc (t := 41) rfl ?_); refine Step.freshAlloc rfl rfl (alloc_agg zero_inst) ?_; intro g2 w2 b hg hb; have st_ := Lib.hid (ST.out.more b hg hb); clear ST b hg hb; have ST := st_)
      | ((with_reducible refine Step.gate_alloc (t := 41) rfl ?_); refine Step.freshAlloc rfl rfl (alloc_agg zero_inst) ?_; intro g1 w1 b hg hb; have ST := Lib.hid (S1.made b hg hb); clear b hg hb)
      | (go_at_call 45; (with_reducible refine (T5.out _).mono ?_); rintro e w' ⟨rfl, hb⟩; (try (have pb_ := Lib.hid (PB.out.below hb); clear PB; have PB := pb_)); have st_ := Lib.hid (ST.out.call hb); clear ST hb; have ST := st_)
      | ((with_reducible refine two_region (id := 14) (fin := ?fin_1) (ok := ?ok_1) (k := 4) (dn := #[.int .i64 13, .int .i64 1, .int .i64 rd, .int .i64 rs1, .int .i64 0, .int .i64 m, .int .i64 0, .bool false]) ST.out.swap ?hm_1 [(52, .agg #[.int .i64 13, .int .i64 1, .int .i64 rd, .int .i64 rs1, .int .i64 0, .int .i64 m, .int .i64 0, .bool false]), (53, .pointer (some ⟨g2, 1, none⟩)), (54, .int .i64 1), (55, .bool true), (3, .bool true)] rfl ?hord_1 ?hin_1 ?hfin_1 ?hk_1 ?hset_1 ?hdo_1 ?_); (case hm_1 => rfl); (case hord_1 => kernel_rfl); (case hin_1 => kernel_rfl); (case hfin_1 => (simp only [Reg.puts, Act.put, List.setIfInBounds_toArray, List.set_cons_zero, List.set_cons_succ]; try rfl)); (case hk_1 => rfl); (case hset_1 => exact sets_all rfl rfl rfl rfl rfl size_inst rfl); (case hdo_1 => ((repeat' (first | exact stays_nil | refine stays_cons ?_ ?_)); all_goals (first | exact stays_loadAll rfl rfl rfl Try.underlying41 rfl size_inst rfl | exact stays_load rfl rfl rfl pl_int rfl rfl | exact stays_load rfl rfl rfl pl_bool rfl rfl | (exact stays_slot rfl rfl (fun X => by first | (go_simp; done) | (go_simp; rfl)))))); intro w' st_; clear ST; have ST := Lib.hid (S2.swap st_); clear st_)
      | ((with_reducible refine Step.gate_store (t := 3) rfl ?_); refine Step.store ST.out.one rfl rfl rfl rfl rfl pl_int rfl rfl ?_; intro w3 nb m; have st_ := Lib.hid (ST.out.set1 nb m); clear ST nb m; have ST := st_)
      | ((with_reducible refine Step.gate_store (t := 4) rfl ?_); refine Step.store ST.out.one rfl rfl rfl rfl rfl pl_bool rfl rfl ?_; intro w3 nb m; have st_ := Lib.hid (ST.out.set1 nb m); clear ST nb m; have ST := st_)
      | ((with_reducible refine Step.gate_store (t := 41) rfl ?_); refine Step.storeAll ST.out.one rfl rfl rfl rfl rfl size_inst rfl rfl ?_; intro w3 nb m; have st_ := Lib.hid (ST.out.set1 nb m); clear ST nb m; have ST := st_)
      | ((with_reducible refine Step.gate_load (t := 3) rfl ?_); refine Step.load ST.out.one rfl rfl rfl pl_int rfl ?_)
      | ((with_reducible refine Step.gate_load (t := 4) rfl ?_); refine Step.load ST.out.one rfl rfl rfl pl_bool rfl ?_)
      | ((with_reducible refine Step.gate_load (t := 41) rfl ?_); refine Step.loadAll ST.out.one rfl rfl rfl Try.underlying41 rfl size_inst ?_)
      | ((with_reducible refine Step.gate_store (t := 3) rfl ?_); refine Step.store ST.out.two rfl rfl rfl rfl rfl pl_int rfl rfl ?_; intro w3 nb m; have st_ := Lib.hid (ST.out.set2 nb m); clear ST nb m; have ST := st_)
      | ((with_reducible refine Step.gate_store (t := 4) rfl ?_); refine Step.store ST.out.two rfl rfl rfl rfl rfl pl_bool rfl rfl ?_; intro w3 nb m; have st_ := Lib.hid (ST.out.set2 nb m); clear ST nb m; have ST := st_)
      | ((with_reducible refine Step.gate_store (t := 41) rfl ?_); refine Step.storeAll ST.out.two rfl rfl rfl rfl rfl size_inst rfl rfl ?_; intro w3 nb m; have st_ := Lib.hid (ST.out.set2 nb m); clear ST nb m; have ST := st_)
      | ((with_reducible refine Step.gate_load (t := 3) rfl ?_); refine Step.load ST.out.two rfl rfl rfl pl_int rfl ?_)
      | ((with_reducible refine Step.gate_load (t := 4) rfl ?_); refine Step.load ST.out.two rfl rfl rfl pl_bool rfl ?_)
      | ((with_reducible refine Step.gate_load (t := 41) rfl ?_); refine Step.loadAll ST.out.two rfl rfl rfl Try.underlying41 rfl size_inst ?_))
    refine bodyPost_ret (results_row_tmp rfl _ _ g1 _ _ _ rfl ST.out.one Try.underlying41 rfl size_inst) rfl ⟨rfl, ST.out.below⟩
  · subst h
    go_enter Try.func37, Try.ntmps37
    go_wp2_with (first
      | (go_at_call 36; (with_reducible refine (T0.out _).mono ?_); rintro e w' ⟨rfl, hb⟩; (try (have pb_ := Lib.hid (PB.out.below hb); clear PB; have PB := pb_)); have st_ := Lib.hid (ST.out.call hb); clear ST hb; have ST := st_)
      | (go_at_call 40; (with_reducible refine (T1.out _).mono ?_); rintro e w' ⟨rfl, hb⟩; (try (have pb_ := Lib.hid (PB.out.below hb); clear PB; have PB := pb_)); have st_ := Lib.hid (ST.out.call hb); clear ST hb; have ST := st_)
      | (go_at_call 41; (with_reducible refine (T2.out _).mono ?_); rintro e w' ⟨rfl, hb⟩; (try (have pb_ := Lib.hid (PB.out.below hb); clear PB; have PB := pb_)); have st_ := Lib.hid (ST.out.call hb); clear ST hb; have ST := st_)
      | (go_at_call 42; (with_reducible refine (T3.out _).mono ?_); rintro e w' ⟨rfl, hb⟩; (try (have pb_ := Lib.hid (PB.out.below hb); clear PB; have PB := pb_)); have st_ := Lib.hid (ST.out.call hb); clear ST hb; have ST := st_)
      | (go_at_call 46; (with_reducible refine (T4.out _).mono ?_); rintro e w' ⟨rfl, hb⟩; (try (have pb_ := Lib.hid (PB.out.below hb); clear PB; have PB := pb_)); have st_ := Lib.hid (ST.out.call hb); clear ST hb; have ST := st_)
      | ((with_reducible refine Step.gate_alloc (t := 41) rfl ?_); refine Step.freshAlloc rfl rfl (alloc_agg zero_inst) ?_; intro g2 w2 b hg hb; have st_ := Lib.hid (ST.out.more b hg hb); clear ST b hg hb; have ST := st_)
      | ((with_reducible refine Step.gate_alloc (t := 41) rfl ?_); refine Step.freshAlloc rfl rfl (alloc_agg zero_inst) ?_; intro g1 w1 b hg hb; have ST := Lib.hid (S1.made b hg hb); clear b hg hb)
      | (go_at_call 45; (with_reducible refine (T5.out _).mono ?_); rintro e w' ⟨rfl, hb⟩; (try (have pb_ := Lib.hid (PB.out.below hb); clear PB; have PB := pb_)); have st_ := Lib.hid (ST.out.call hb); clear ST hb; have ST := st_)
      | ((with_reducible refine two_region (id := 14) (fin := ?fin_2) (ok := ?ok_2) (k := 4) (dn := #[.int .i64 13, .int .i64 2, .int .i64 rd, .int .i64 rs1, .int .i64 0, .int .i64 m, .int .i64 0, .bool false]) ST.out.swap ?hm_2 [(52, .agg #[.int .i64 13, .int .i64 2, .int .i64 rd, .int .i64 rs1, .int .i64 0, .int .i64 m, .int .i64 0, .bool false]), (53, .pointer (some ⟨g2, 1, none⟩)), (54, .int .i64 2), (55, .bool true), (3, .bool true)] rfl ?hord_2 ?hin_2 ?hfin_2 ?hk_2 ?hset_2 ?hdo_2 ?_); (case hm_2 => rfl); (case hord_2 => kernel_rfl); (case hin_2 => kernel_rfl); (case hfin_2 => (simp only [Reg.puts, Act.put, List.setIfInBounds_toArray, List.set_cons_zero, List.set_cons_succ]; try rfl)); (case hk_2 => rfl); (case hset_2 => exact sets_all rfl rfl rfl rfl rfl size_inst rfl); (case hdo_2 => ((repeat' (first | exact stays_nil | refine stays_cons ?_ ?_)); all_goals (first | exact stays_loadAll rfl rfl rfl Try.underlying41 rfl size_inst rfl | exact stays_load rfl rfl rfl pl_int rfl rfl | exact stays_load rfl rfl rfl pl_bool rfl rfl | (exact stays_slot rfl rfl (fun X => by first | (go_simp; done) | (go_simp; rfl)))))); intro w' st_; clear ST; have ST := Lib.hid (S2.swap st_); clear st_)
      | ((with_reducible refine Step.gate_store (t := 3) rfl ?_); refine Step.store ST.out.one rfl rfl rfl rfl rfl pl_int rfl rfl ?_; intro w3 nb m; have st_ := Lib.hid (ST.out.set1 nb m); clear ST nb m; have ST := st_)
      | ((with_reducible refine Step.gate_store (t := 4) rfl ?_); refine Step.store ST.out.one rfl rfl rfl rfl rfl pl_bool rfl rfl ?_; intro w3 nb m; have st_ := Lib.hid (ST.out.set1 nb m); clear ST nb m; have ST := st_)
      | ((with_reducible refine Step.gate_store (t := 41) rfl ?_); refine Step.storeAll ST.out.one rfl rfl rfl rfl rfl size_inst rfl rfl ?_; intro w3 nb m; have st_ := Lib.hid (ST.out.set1 nb m); clear ST nb m; have ST := st_)
      | ((with_reducible refine Step.gate_load (t := 3) rfl ?_); refine Step.load ST.out.one rfl rfl rfl pl_int rfl ?_)
      | ((with_reducible refine Step.gate_load (t := 4) rfl ?_); refine Step.load ST.out.one rfl rfl rfl pl_bool rfl ?_)
      | ((with_reducible refine Step.gate_load (t := 41) rfl ?_); refine Step.loadAll ST.out.one rfl rfl rfl Try.underlying41 rfl size_inst ?_)
      | ((with_reducible refine Step.gate_store (t := 3) rfl ?_); refine Step.store ST.out.two rfl rfl rfl rfl rfl pl_int rfl rfl ?_; intro w3 nb m; have st_ := Lib.hid (ST.out.set2 nb m); clear ST nb m; have ST := st_)
      | ((with_reducible refine Step.gate_store (t := 4) rfl ?_); refine Step.store ST.out.two rfl rfl rfl rfl rfl pl_bool rfl rfl ?_; intro w3 nb m; have st_ := Lib.hid (ST.out.set2 nb m); clear ST nb m; have ST := st_)
      | ((with_reducible refine Step.gate_store (t := 41) rfl ?_); refine Step.storeAll ST.out.two rfl rfl rfl rfl rfl size_inst rfl rfl ?_; intro w3 nb m; have st_ := Lib.hid (ST.out.set2 nb m); clear ST nb m; have ST := st_)
      | ((with_reducible refine Step.gate_load (t := 3) rfl ?_); refine Step.load ST.out.two rfl rfl rfl pl_int rfl ?_)
      | ((with_reducible refine Step.gate_load (t := 4) rfl ?_); refine Step.load ST.out.two rfl rfl rfl pl_bool rfl ?_)
      | ((with_reducible refine Step.gate_load (t := 41) rfl ?_); refine Step.loadAll ST.out.two rfl rfl rfl Try.underlying41 rfl size_inst ?_))
    refine bodyPost_ret (results_row_tmp rfl _ _ g1 _ _ _ rfl ST.out.one Try.underlying41 rfl size_inst) rfl ⟨rfl, ST.out.below⟩
  · subst h
    go_enter Try.func37, Try.ntmps37
    go_wp2_with (first
      | (go_at_call 36; (with_reducible refine (T0.out _).mono ?_); rintro e w' ⟨rfl, hb⟩; (try (have pb_ := Lib.hid (PB.out.below hb); clear PB; have PB := pb_)); have st_ := Lib.hid (ST.out.call hb); clear ST hb; have ST := st_)
      | (go_at_call 40; (with_reducible refine (T1.out _).mono ?_); rintro e w' ⟨rfl, hb⟩; (try (have pb_ := Lib.hid (PB.out.below hb); clear PB; have PB := pb_)); have st_ := Lib.hid (ST.out.call hb); clear ST hb; have ST := st_)
      | (go_at_call 41; (with_reducible refine (T2.out _).mono ?_); rintro e w' ⟨rfl, hb⟩; (try (have pb_ := Lib.hid (PB.out.below hb); clear PB; have PB := pb_)); have st_ := Lib.hid (ST.out.call hb); clear ST hb; have ST := st_)
      | (go_at_call 42; (with_reducible refine (T3.out _).mono ?_); rintro e w' ⟨rfl, hb⟩; (try (have pb_ := Lib.hid (PB.out.below hb); clear PB; have PB := pb_)); have st_ := Lib.hid (ST.out.call hb); clear ST hb; have ST := st_)
      | (go_at_call 46; (with_reducible refine (T4.out _).mono ?_); rintro e w' ⟨rfl, hb⟩; (try (have pb_ := Lib.hid (PB.out.below hb); clear PB; have PB := pb_)); have st_ := Lib.hid (ST.out.call hb); clear ST hb; have ST := st_)
      | ((with_reducible refine Step.gate_alloc (t := 41) rfl ?_); refine Step.freshAlloc rfl rfl (alloc_agg zero_inst) ?_; intro g2 w2 b hg hb; have st_ := Lib.hid (ST.out.more b hg hb); clear ST b hg hb; have ST := st_)
      | ((with_reducible refine Step.gate_alloc (t := 41) rfl ?_); refine Step.freshAlloc rfl rfl (alloc_agg zero_inst) ?_; intro g1 w1 b hg hb; have ST := Lib.hid (S1.made b hg hb); clear b hg hb)
      | (go_at_call 45; (with_reducible refine (T5.out _).mono ?_); rintro e w' ⟨rfl, hb⟩; (try (have pb_ := Lib.hid (PB.out.below hb); clear PB; have PB := pb_)); have st_ := Lib.hid (ST.out.call hb); clear ST hb; have ST := st_)
      | ((with_reducible refine two_region (id := 14) (fin := ?fin_3) (ok := ?ok_3) (k := 4) (dn := #[.int .i64 13, .int .i64 3, .int .i64 rd, .int .i64 rs1, .int .i64 0, .int .i64 m, .int .i64 0, .bool false]) ST.out.swap ?hm_3 [(52, .agg #[.int .i64 13, .int .i64 3, .int .i64 rd, .int .i64 rs1, .int .i64 0, .int .i64 m, .int .i64 0, .bool false]), (53, .pointer (some ⟨g2, 1, none⟩)), (54, .int .i64 3), (55, .bool true), (3, .bool true)] rfl ?hord_3 ?hin_3 ?hfin_3 ?hk_3 ?hset_3 ?hdo_3 ?_); (case hm_3 => rfl); (case hord_3 => kernel_rfl); (case hin_3 => kernel_rfl); (case hfin_3 => (simp only [Reg.puts, Act.put, List.setIfInBounds_toArray, List.set_cons_zero, List.set_cons_succ]; try rfl)); (case hk_3 => rfl); (case hset_3 => exact sets_all rfl rfl rfl rfl rfl size_inst rfl); (case hdo_3 => ((repeat' (first | exact stays_nil | refine stays_cons ?_ ?_)); all_goals (first | exact stays_loadAll rfl rfl rfl Try.underlying41 rfl size_inst rfl | exact stays_load rfl rfl rfl pl_int rfl rfl | exact stays_load rfl rfl rfl pl_bool rfl rfl | (exact stays_slot rfl rfl (fun X => by first | (go_simp; done) | (go_simp; rfl)))))); intro w' st_; clear ST; have ST := Lib.hid (S2.swap st_); clear st_)
      | ((with_reducible refine Step.gate_store (t := 3) rfl ?_); refine Step.store ST.out.one rfl rfl rfl rfl rfl pl_int rfl rfl ?_; intro w3 nb m; have st_ := Lib.hid (ST.out.set1 nb m); clear ST nb m; have ST := st_)
      | ((with_reducible refine Step.gate_store (t := 4) rfl ?_); refine Step.store ST.out.one rfl rfl rfl rfl rfl pl_bool rfl rfl ?_; intro w3 nb m; have st_ := Lib.hid (ST.out.set1 nb m); clear ST nb m; have ST := st_)
      | ((with_reducible refine Step.gate_store (t := 41) rfl ?_); refine Step.storeAll ST.out.one rfl rfl rfl rfl rfl size_inst rfl rfl ?_; intro w3 nb m; have st_ := Lib.hid (ST.out.set1 nb m); clear ST nb m; have ST := st_)
      | ((with_reducible refine Step.gate_load (t := 3) rfl ?_); refine Step.load ST.out.one rfl rfl rfl pl_int rfl ?_)
      | ((with_reducible refine Step.gate_load (t := 4) rfl ?_); refine Step.load ST.out.one rfl rfl rfl pl_bool rfl ?_)
      | ((with_reducible refine Step.gate_load (t := 41) rfl ?_); refine Step.loadAll ST.out.one rfl rfl rfl Try.underlying41 rfl size_inst ?_)
      | ((with_reducible refine Step.gate_store (t := 3) rfl ?_); refine Step.store ST.out.two rfl rfl rfl rfl rfl pl_int rfl rfl ?_; intro w3 nb m; have st_ := Lib.hid (ST.out.set2 nb m); clear ST nb m; have ST := st_)
      | ((with_reducible refine Step.gate_store (t := 4) rfl ?_); refine Step.store ST.out.two rfl rfl rfl rfl rfl pl_bool rfl rfl ?_; intro w3 nb m; have st_ := Lib.hid (ST.out.set2 nb m); clear ST nb m; have ST := st_)
      | ((with_reducible refine Step.gate_store (t := 41) rfl ?_); refine Step.storeAll ST.out.two rfl rfl rfl rfl rfl size_inst rfl rfl ?_; intro w3 nb m; have st_ := Lib.hid (ST.out.set2 nb m); clear ST nb m; have ST := st_)
      | ((with_reducible refine Step.gate_load (t := 3) rfl ?_); refine Step.load ST.out.two rfl rfl rfl pl_int rfl ?_)
      | ((with_reducible refine Step.gate_load (t := 4) rfl ?_); refine Step.load ST.out.two rfl rfl rfl pl_bool rfl ?_)
      | ((with_reducible refine Step.gate_load (t := 41) rfl ?_); refine Step.loadAll ST.out.two rfl rfl rfl Try.underlying41 rfl size_inst ?_))
    refine bodyPost_ret (results_row_tmp rfl _ _ g1 _ _ _ rfl ST.out.one Try.underlying41 rfl size_inst) rfl ⟨rfl, ST.out.below⟩
  · subst h
    go_enter Try.func37, Try.ntmps37
    go_wp2_with (first
      | (go_at_call 36; (with_reducible refine (T0.out _).mono ?_); rintro e w' ⟨rfl, hb⟩; (try (have pb_ := Lib.hid (PB.out.below hb); clear PB; have PB := pb_)); have st_ := Lib.hid (ST.out.call hb); clear ST hb; have ST := st_)
      | (go_at_call 40; (with_reducible refine (T1.out _).mono ?_); rintro e w' ⟨rfl, hb⟩; (try (have pb_ := Lib.hid (PB.out.below hb); clear PB; have PB := pb_)); have st_ := Lib.hid (ST.out.call hb); clear ST hb; have ST := st_)
      | (go_at_call 41; (with_reducible refine (T2.out _).mono ?_); rintro e w' ⟨rfl, hb⟩; (try (have pb_ := Lib.hid (PB.out.below hb); clear PB; have PB := pb_)); have st_ := Lib.hid (ST.out.call hb); clear ST hb; have ST := st_)
      | (go_at_call 42; (with_reducible refine (T3.out _).mono ?_); rintro e w' ⟨rfl, hb⟩; (try (have pb_ := Lib.hid (PB.out.below hb); clear PB; have PB := pb_)); have st_ := Lib.hid (ST.out.call hb); clear ST hb; have ST := st_)
      | (go_at_call 46; (with_reducible refine (T4.out _).mono ?_); rintro e w' ⟨rfl, hb⟩; (try (have pb_ := Lib.hid (PB.out.below hb); clear PB; have PB := pb_)); have st_ := Lib.hid (ST.out.call hb); clear ST hb; have ST := st_)
      | ((with_reducible refine Step.gate_alloc (t := 41) rfl ?_); refine Step.freshAlloc rfl rfl (alloc_agg zero_inst) ?_; intro g2 w2 b hg hb; have st_ := Lib.hid (ST.out.more b hg hb); clear ST b hg hb; have ST := st_)
      | ((with_reducible refine Step.gate_alloc (t := 41) rfl ?_); refine Step.freshAlloc rfl rfl (alloc_agg zero_inst) ?_; intro g1 w1 b hg hb; have ST := Lib.hid (S1.made b hg hb); clear b hg hb)
      | (go_at_call 45; (with_reducible refine (T5.out _).mono ?_); rintro e w' ⟨rfl, hb⟩; (try (have pb_ := Lib.hid (PB.out.below hb); clear PB; have PB := pb_)); have st_ := Lib.hid (ST.out.call hb); clear ST hb; have ST := st_)
      | ((with_reducible refine two_region (id := 14) (fin := ?fin_4) (ok := ?ok_4) (k := 4) (dn := #[.int .i64 14, .int .i64 0, .int .i64 rd, .int .i64 rs1, .int .i64 0, .int .i64 m, .int .i64 0, .bool false]) ST.out.swap ?hm_4 [(52, .agg #[.int .i64 14, .int .i64 0, .int .i64 rd, .int .i64 rs1, .int .i64 0, .int .i64 m, .int .i64 0, .bool false]), (53, .pointer (some ⟨g2, 1, none⟩)), (54, .int .i64 0), (55, .bool false), (3, .bool false)] rfl ?hord_4 ?hin_4 ?hfin_4 ?hk_4 ?hset_4 ?hdo_4 ?_); (case hm_4 => rfl); (case hord_4 => kernel_rfl); (case hin_4 => kernel_rfl); (case hfin_4 => (simp only [Reg.puts, Act.put, List.setIfInBounds_toArray, List.set_cons_zero, List.set_cons_succ]; try rfl)); (case hk_4 => rfl); (case hset_4 => exact sets_all rfl rfl rfl rfl rfl size_inst rfl); (case hdo_4 => ((repeat' (first | exact stays_nil | refine stays_cons ?_ ?_)); all_goals (first | exact stays_loadAll rfl rfl rfl Try.underlying41 rfl size_inst rfl | exact stays_load rfl rfl rfl pl_int rfl rfl | exact stays_load rfl rfl rfl pl_bool rfl rfl | (exact stays_slot rfl rfl (fun X => by first | (go_simp; done) | (go_simp; rfl)))))); intro w' st_; clear ST; have ST := Lib.hid (S2.swap st_); clear st_)
      | ((with_reducible refine Step.gate_store (t := 3) rfl ?_); refine Step.store ST.out.one rfl rfl rfl rfl rfl pl_int rfl rfl ?_; intro w3 nb m; have st_ := Lib.hid (ST.out.set1 nb m); clear ST nb m; have ST := st_)
      | ((with_reducible refine Step.gate_store (t := 4) rfl ?_); refine Step.store ST.out.one rfl rfl rfl rfl rfl pl_bool rfl rfl ?_; intro w3 nb m; have st_ := Lib.hid (ST.out.set1 nb m); clear ST nb m; have ST := st_)
      | ((with_reducible refine Step.gate_store (t := 41) rfl ?_); refine Step.storeAll ST.out.one rfl rfl rfl rfl rfl size_inst rfl rfl ?_; intro w3 nb m; have st_ := Lib.hid (ST.out.set1 nb m); clear ST nb m; have ST := st_)
      | ((with_reducible refine Step.gate_load (t := 3) rfl ?_); refine Step.load ST.out.one rfl rfl rfl pl_int rfl ?_)
      | ((with_reducible refine Step.gate_load (t := 4) rfl ?_); refine Step.load ST.out.one rfl rfl rfl pl_bool rfl ?_)
      | ((with_reducible refine Step.gate_load (t := 41) rfl ?_); refine Step.loadAll ST.out.one rfl rfl rfl Try.underlying41 rfl size_inst ?_)
      | ((with_reducible refine Step.gate_store (t := 3) rfl ?_); refine Step.store ST.out.two rfl rfl rfl rfl rfl pl_int rfl rfl ?_; intro w3 nb m; have st_ := Lib.hid (ST.out.set2 nb m); clear ST nb m; have ST := st_)
      | ((with_reducible refine Step.gate_store (t := 4) rfl ?_); refine Step.store ST.out.two rfl rfl rfl rfl rfl pl_bool rfl rfl ?_; intro w3 nb m; have st_ := Lib.hid (ST.out.set2 nb m); clear ST nb m; have ST := st_)
      | ((with_reducible refine Step.gate_store (t := 41) rfl ?_); refine Step.storeAll ST.out.two rfl rfl rfl rfl rfl size_inst rfl rfl ?_; intro w3 nb m; have st_ := Lib.hid (ST.out.set2 nb m); clear ST nb m; have ST := st_)
      | ((with_reducible refine Step.gate_load (t := 3) rfl ?_); refine Step.load ST.out.two rfl rfl rfl pl_int rfl ?_)
      | ((with_reducible refine Step.gate_load (t := 4) rfl ?_); refine Step.load ST.out.two rfl rfl rfl pl_bool rfl ?_)
      | ((with_reducible refine Step.gate_load (t := 41) rfl ?_); refine Step.loadAll ST.out.two rfl rfl rfl Try.underlying41 rfl size_inst ?_))
    refine bodyPost_ret (results_row_tmp rfl _ _ g1 _ _ _ rfl ST.out.one Try.underlying41 rfl size_inst) rfl ⟨rfl, ST.out.below⟩
  · subst h
    go_enter Try.func37, Try.ntmps37
    go_wp2_with (first
      | (go_at_call 36; (with_reducible refine (T0.out _).mono ?_); rintro e w' ⟨rfl, hb⟩; (try (have pb_ := Lib.hid (PB.out.below hb); clear PB; have PB := pb_)); have st_ := Lib.hid (ST.out.call hb); clear ST hb; have ST := st_)
      | (go_at_call 40; (with_reducible refine (T1.out _).mono ?_); rintro e w' ⟨rfl, hb⟩; (try (have pb_ := Lib.hid (PB.out.below hb); clear PB; have PB := pb_)); have st_ := Lib.hid (ST.out.call hb); clear ST hb; have ST := st_)
      | (go_at_call 41; (with_reducible refine (T2.out _).mono ?_); rintro e w' ⟨rfl, hb⟩; (try (have pb_ := Lib.hid (PB.out.below hb); clear PB; have PB := pb_)); have st_ := Lib.hid (ST.out.call hb); clear ST hb; have ST := st_)
      | (go_at_call 42; (with_reducible refine (T3.out _).mono ?_); rintro e w' ⟨rfl, hb⟩; (try (have pb_ := Lib.hid (PB.out.below hb); clear PB; have PB := pb_)); have st_ := Lib.hid (ST.out.call hb); clear ST hb; have ST := st_)
      | (go_at_call 46; (with_reducible refine (T4.out _).mono ?_); rintro e w' ⟨rfl, hb⟩; (try (have pb_ := Lib.hid (PB.out.below hb); clear PB; have PB := pb_)); have st_ := Lib.hid (ST.out.call hb); clear ST hb; have ST := st_)
      | ((with_reducible refine Step.gate_alloc (t := 41) rfl ?_); refine Step.freshAlloc rfl rfl (alloc_agg zero_inst) ?_; intro g2 w2 b hg hb; have st_ := Lib.hid (ST.out.more b hg hb); clear ST b hg hb; have ST := st_)
      | ((with_reducible refine Step.gate_alloc (t := 41) rfl ?_); refine Step.freshAlloc rfl rfl (alloc_agg zero_inst) ?_; intro g1 w1 b hg hb; have ST := Lib.hid (S1.made b hg hb); clear b hg hb)
      | (go_at_call 45; (with_reducible refine (T5.out _).mono ?_); rintro e w' ⟨rfl, hb⟩; (try (have pb_ := Lib.hid (PB.out.below hb); clear PB; have PB := pb_)); have st_ := Lib.hid (ST.out.call hb); clear ST hb; have ST := st_)
      | ((with_reducible refine two_region (id := 14) (fin := ?fin_5) (ok := ?ok_5) (k := 4) (dn := #[.int .i64 14, .int .i64 1, .int .i64 rd, .int .i64 rs1, .int .i64 0, .int .i64 m, .int .i64 0, .bool false]) ST.out.swap ?hm_5 [(52, .agg #[.int .i64 14, .int .i64 1, .int .i64 rd, .int .i64 rs1, .int .i64 0, .int .i64 m, .int .i64 0, .bool false]), (53, .pointer (some ⟨g2, 1, none⟩)), (54, .int .i64 1), (55, .bool true), (3, .bool true)] rfl ?hord_5 ?hin_5 ?hfin_5 ?hk_5 ?hset_5 ?hdo_5 ?_); (case hm_5 => rfl); (case hord_5 => kernel_rfl); (case hin_5 => kernel_rfl); (case hfin_5 => (simp only [Reg.puts, Act.put, List.setIfInBounds_toArray, List.set_cons_zero, List.set_cons_succ]; try rfl)); (case hk_5 => rfl); (case hset_5 => exact sets_all rfl rfl rfl rfl rfl size_inst rfl); (case hdo_5 => ((repeat' (first | exact stays_nil | refine stays_cons ?_ ?_)); all_goals (first | exact stays_loadAll rfl rfl rfl Try.underlying41 rfl size_inst rfl | exact stays_load rfl rfl rfl pl_int rfl rfl | exact stays_load rfl rfl rfl pl_bool rfl rfl | (exact stays_slot rfl rfl (fun X => by first | (go_simp; done) | (go_simp; rfl)))))); intro w' st_; clear ST; have ST := Lib.hid (S2.swap st_); clear st_)
      | ((with_reducible refine Step.gate_store (t := 3) rfl ?_); refine Step.store ST.out.one rfl rfl rfl rfl rfl pl_int rfl rfl ?_; intro w3 nb m; have st_ := Lib.hid (ST.out.set1 nb m); clear ST nb m; have ST := st_)
      | ((with_reducible refine Step.gate_store (t := 4) rfl ?_); refine Step.store ST.out.one rfl rfl rfl rfl rfl pl_bool rfl rfl ?_; intro w3 nb m; have st_ := Lib.hid (ST.out.set1 nb m); clear ST nb m; have ST := st_)
      | ((with_reducible refine Step.gate_store (t := 41) rfl ?_); refine Step.storeAll ST.out.one rfl rfl rfl rfl rfl size_inst rfl rfl ?_; intro w3 nb m; have st_ := Lib.hid (ST.out.set1 nb m); clear ST nb m; have ST := st_)
      | ((with_reducible refine Step.gate_load (t := 3) rfl ?_); refine Step.load ST.out.one rfl rfl rfl pl_int rfl ?_)
      | ((with_reducible refine Step.gate_load (t := 4) rfl ?_); refine Step.load ST.out.one rfl rfl rfl pl_bool rfl ?_)
      | ((with_reducible refine Step.gate_load (t := 41) rfl ?_); refine Step.loadAll ST.out.one rfl rfl rfl Try.underlying41 rfl size_inst ?_)
      | ((with_reducible refine Step.gate_store (t := 3) rfl ?_); refine Step.store ST.out.two rfl rfl rfl rfl rfl pl_int rfl rfl ?_; intro w3 nb m; have st_ := Lib.hid (ST.out.set2 nb m); clear ST nb m; have ST := st_)
      | ((with_reducible refine Step.gate_store (t := 4) rfl ?_); refine Step.store ST.out.two rfl rfl rfl rfl rfl pl_bool rfl rfl ?_; intro w3 nb m; have st_ := Lib.hid (ST.out.set2 nb m); clear ST nb m; have ST := st_)
      | ((with_reducible refine Step.gate_store (t := 41) rfl ?_); refine Step.storeAll ST.out.two rfl rfl rfl rfl rfl size_inst rfl rfl ?_; intro w3 nb m; have st_ := Lib.hid (ST.out.set2 nb m); clear ST nb m; have ST := st_)
      | ((with_reducible refine Step.gate_load (t := 3) rfl ?_); refine Step.load ST.out.two rfl rfl rfl pl_int rfl ?_)
      | ((with_reducible refine Step.gate_load (t := 4) rfl ?_); refine Step.load ST.out.two rfl rfl rfl pl_bool rfl ?_)
      | ((with_reducible refine Step.gate_load (t := 41) rfl ?_); refine Step.loadAll ST.out.two rfl rfl rfl Try.underlying41 rfl size_inst ?_))
    refine bodyPost_ret (results_row_tmp rfl _ _ g1 _ _ _ rfl ST.out.one Try.underlying41 rfl size_inst) rfl ⟨rfl, ST.out.below⟩
  · subst h
    go_enter Try.func37, Try.ntmps37
    go_wp2_with (first
      | (go_at_call 36; (with_reducible refine (T0.out _).mono ?_); rintro e w' ⟨rfl, hb⟩; (try (have pb_ := Lib.hid (PB.out.below hb); clear PB; have PB := pb_)); have st_ := Lib.hid (ST.out.call hb); clear ST hb; have ST := st_)
      | (go_at_call 40; (with_reducible refine (T1.out _).mono ?_); rintro e w' ⟨rfl, hb⟩; (try (have pb_ := Lib.hid (PB.out.below hb); clear PB; have PB := pb_)); have st_ := Lib.hid (ST.out.call hb); clear ST hb; have ST := st_)
      | (go_at_call 41; (with_reducible refine (T2.out _).mono ?_); rintro e w' ⟨rfl, hb⟩; (try (have pb_ := Lib.hid (PB.out.below hb); clear PB; have PB := pb_)); have st_ := Lib.hid (ST.out.call hb); clear ST hb; have ST := st_)
      | (go_at_call 42; (with_reducible refine (T3.out _).mono ?_); rintro e w' ⟨rfl, hb⟩; (try (have pb_ := Lib.hid (PB.out.below hb); clear PB; have PB := pb_)); have st_ := Lib.hid (ST.out.call hb); clear ST hb; have ST := st_)
      | (go_at_call 46; (with_reducible refine (T4.out _).mono ?_); rintro e w' ⟨rfl, hb⟩; (try (have pb_ := Lib.hid (PB.out.below hb); clear PB; have PB := pb_)); have st_ := Lib.hid (ST.out.call hb); clear ST hb; have ST := st_)
      | ((with_reducible refine Step.gate_alloc (t := 41) rfl ?_); refine Step.freshAlloc rfl rfl (alloc_agg zero_inst) ?_; intro g2 w2 b hg hb; have st_ := Lib.hid (ST.out.more b hg hb); clear ST b hg hb; have ST := st_)
      | ((with_reducible refine Step.gate_alloc (t := 41) rfl ?_); refine Step.freshAlloc rfl rfl (alloc_agg zero_inst) ?_; intro g1 w1 b hg hb; have ST := Lib.hid (S1.made b hg hb); clear b hg hb)
      | (go_at_call 45; (with_reducible refine (T5.out _).mono ?_); rintro e w' ⟨rfl, hb⟩; (try (have pb_ := Lib.hid (PB.out.below hb); clear PB; have PB := pb_)); have st_ := Lib.hid (ST.out.call hb); clear ST hb; have ST := st_)
      | ((with_reducible refine two_region (id := 14) (fin := ?fin_6) (ok := ?ok_6) (k := 4) (dn := #[.int .i64 14, .int .i64 2, .int .i64 rd, .int .i64 rs1, .int .i64 0, .int .i64 m, .int .i64 0, .bool false]) ST.out.swap ?hm_6 [(52, .agg #[.int .i64 14, .int .i64 2, .int .i64 rd, .int .i64 rs1, .int .i64 0, .int .i64 m, .int .i64 0, .bool false]), (53, .pointer (some ⟨g2, 1, none⟩)), (54, .int .i64 2), (55, .bool true), (3, .bool true)] rfl ?hord_6 ?hin_6 ?hfin_6 ?hk_6 ?hset_6 ?hdo_6 ?_); (case hm_6 => rfl); (case hord_6 => kernel_rfl); (case hin_6 => kernel_rfl); (case hfin_6 => (simp only [Reg.puts, Act.put, List.setIfInBounds_toArray, List.set_cons_zero, List.set_cons_succ]; try rfl)); (case hk_6 => rfl); (case hset_6 => exact sets_all rfl rfl rfl rfl rfl size_inst rfl); (case hdo_6 => ((repeat' (first | exact stays_nil | refine stays_cons ?_ ?_)); all_goals (first | exact stays_loadAll rfl rfl rfl Try.underlying41 rfl size_inst rfl | exact stays_load rfl rfl rfl pl_int rfl rfl | exact stays_load rfl rfl rfl pl_bool rfl rfl | (exact stays_slot rfl rfl (fun X => by first | (go_simp; done) | (go_simp; rfl)))))); intro w' st_; clear ST; have ST := Lib.hid (S2.swap st_); clear st_)
      | ((with_reducible refine Step.gate_store (t := 3) rfl ?_); refine Step.store ST.out.one rfl rfl rfl rfl rfl pl_int rfl rfl ?_; intro w3 nb m; have st_ := Lib.hid (ST.out.set1 nb m); clear ST nb m; have ST := st_)
      | ((with_reducible refine Step.gate_store (t := 4) rfl ?_); refine Step.store ST.out.one rfl rfl rfl rfl rfl pl_bool rfl rfl ?_; intro w3 nb m; have st_ := Lib.hid (ST.out.set1 nb m); clear ST nb m; have ST := st_)
      | ((with_reducible refine Step.gate_store (t := 41) rfl ?_); refine Step.storeAll ST.out.one rfl rfl rfl rfl rfl size_inst rfl rfl ?_; intro w3 nb m; have st_ := Lib.hid (ST.out.set1 nb m); clear ST nb m; have ST := st_)
      | ((with_reducible refine Step.gate_load (t := 3) rfl ?_); refine Step.load ST.out.one rfl rfl rfl pl_int rfl ?_)
      | ((with_reducible refine Step.gate_load (t := 4) rfl ?_); refine Step.load ST.out.one rfl rfl rfl pl_bool rfl ?_)
      | ((with_reducible refine Step.gate_load (t := 41) rfl ?_); refine Step.loadAll ST.out.one rfl rfl rfl Try.underlying41 rfl size_inst ?_)
      | ((with_reducible refine Step.gate_store (t := 3) rfl ?_); refine Step.store ST.out.two rfl rfl rfl rfl rfl pl_int rfl rfl ?_; intro w3 nb m; have st_ := Lib.hid (ST.out.set2 nb m); clear ST nb m; have ST := st_)
      | ((with_reducible refine Step.gate_store (t := 4) rfl ?_); refine Step.store ST.out.two rfl rfl rfl rfl rfl pl_bool rfl rfl ?_; intro w3 nb m; have st_ := Lib.hid (ST.out.set2 nb m); clear ST nb m; have ST := st_)
      | ((with_reducible refine Step.gate_store (t := 41) rfl ?_); refine Step.storeAll ST.out.two rfl rfl rfl rfl rfl size_inst rfl rfl ?_; intro w3 nb m; have st_ := Lib.hid (ST.out.set2 nb m); clear ST nb m; have ST := st_)
      | ((with_reducible refine Step.gate_load (t := 3) rfl ?_); refine Step.load ST.out.two rfl rfl rfl pl_int rfl ?_)
      | ((with_reducible refine Step.gate_load (t := 4) rfl ?_); refine Step.load ST.out.two rfl rfl rfl pl_bool rfl ?_)
      | ((with_reducible refine Step.gate_load (t := 41) rfl ?_); refine Step.loadAll ST.out.two rfl rfl rfl Try.underlying41 rfl size_inst ?_))
    refine bodyPost_ret (results_row_tmp rfl _ _ g1 _ _ _ rfl ST.out.one Try.underlying41 rfl size_inst) rfl ⟨rfl, ST.out.below⟩
  · subst h
    go_enter Try.func37, Try.ntmps37
    go_wp2_with (first
      | (go_at_call 36; (with_reducible refine (T0.out _).mono ?_); rintro e w' ⟨rfl, hb⟩; (try (have pb_ := Lib.hid (PB.out.below hb); clear PB; have PB := pb_)); have st_ := Lib.hid (ST.out.call hb); clear ST hb; have ST := st_)
      | (go_at_call 40; (with_reducible refine (T1.out _).mono ?_); rintro e w' ⟨rfl, hb⟩; (try (have pb_ := Lib.hid (PB.out.below hb); clear PB; have PB := pb_)); have st_ := Lib.hid (ST.out.call hb); clear ST hb; have ST := st_)
      | (go_at_call 41; (with_reducible refine (T2.out _).mono ?_); rintro e w' ⟨rfl, hb⟩; (try (have pb_ := Lib.hid (PB.out.below hb); clear PB; have PB := pb_)); have st_ := Lib.hid (ST.out.call hb); clear ST hb; have ST := st_)
      | (go_at_call 42; (with_reducible refine (T3.out _).mono ?_); rintro e w' ⟨rfl, hb⟩; (try (have pb_ := Lib.hid (PB.out.below hb); clear PB; have PB := pb_)); have st_ := Lib.hid (ST.out.call hb); clear ST hb; have ST := st_)
      | (go_at_call 46; (with_reducible refine (T4.out _).mono ?_); rintro e w' ⟨rfl, hb⟩; (try (have pb_ := Lib.hid (PB.out.below hb); clear PB; have PB := pb_)); have st_ := Lib.hid (ST.out.call hb); clear ST hb; have ST := st_)
      | ((with_reducible refine Step.gate_alloc (t := 41) rfl ?_); refine Step.freshAlloc rfl rfl (alloc_agg zero_inst) ?_; intro g2 w2 b hg hb; have st_ := Lib.hid (ST.out.more b hg hb); clear ST b hg hb; have ST := st_)
      | ((with_reducible refine Step.gate_alloc (t := 41) rfl ?_); refine Step.freshAlloc rfl rfl (alloc_agg zero_inst) ?_; intro g1 w1 b hg hb; have ST := Lib.hid (S1.made b hg hb); clear b hg hb)
      | (go_at_call 45; (with_reducible refine (T5.out _).mono ?_); rintro e w' ⟨rfl, hb⟩; (try (have pb_ := Lib.hid (PB.out.below hb); clear PB; have PB := pb_)); have st_ := Lib.hid (ST.out.call hb); clear ST hb; have ST := st_)
      | ((with_reducible refine two_region (id := 14) (fin := ?fin_7) (ok := ?ok_7) (k := 4) (dn := #[.int .i64 14, .int .i64 3, .int .i64 rd, .int .i64 rs1, .int .i64 0, .int .i64 m, .int .i64 0, .bool false]) ST.out.swap ?hm_7 [(52, .agg #[.int .i64 14, .int .i64 3, .int .i64 rd, .int .i64 rs1, .int .i64 0, .int .i64 m, .int .i64 0, .bool false]), (53, .pointer (some ⟨g2, 1, none⟩)), (54, .int .i64 3), (55, .bool true), (3, .bool true)] rfl ?hord_7 ?hin_7 ?hfin_7 ?hk_7 ?hset_7 ?hdo_7 ?_); (case hm_7 => rfl); (case hord_7 => kernel_rfl); (case hin_7 => kernel_rfl); (case hfin_7 => (simp only [Reg.puts, Act.put, List.setIfInBounds_toArray, List.set_cons_zero, List.set_cons_succ]; try rfl)); (case hk_7 => rfl); (case hset_7 => exact sets_all rfl rfl rfl rfl rfl size_inst rfl); (case hdo_7 => ((repeat' (first | exact stays_nil | refine stays_cons ?_ ?_)); all_goals (first | exact stays_loadAll rfl rfl rfl Try.underlying41 rfl size_inst rfl | exact stays_load rfl rfl rfl pl_int rfl rfl | exact stays_load rfl rfl rfl pl_bool rfl rfl | (exact stays_slot rfl rfl (fun X => by first | (go_simp; done) | (go_simp; rfl)))))); intro w' st_; clear ST; have ST := Lib.hid (S2.swap st_); clear st_)
      | ((with_reducible refine Step.gate_store (t := 3) rfl ?_); refine Step.store ST.out.one rfl rfl rfl rfl rfl pl_int rfl rfl ?_; intro w3 nb m; have st_ := Lib.hid (ST.out.set1 nb m); clear ST nb m; have ST := st_)
      | ((with_reducible refine Step.gate_store (t := 4) rfl ?_); refine Step.store ST.out.one rfl rfl rfl rfl rfl pl_bool rfl rfl ?_; intro w3 nb m; have st_ := Lib.hid (ST.out.set1 nb m); clear ST nb m; have ST := st_)
      | ((with_reducible refine Step.gate_store (t := 41) rfl ?_); refine Step.storeAll ST.out.one rfl rfl rfl rfl rfl size_inst rfl rfl ?_; intro w3 nb m; have st_ := Lib.hid (ST.out.set1 nb m); clear ST nb m; have ST := st_)
      | ((with_reducible refine Step.gate_load (t := 3) rfl ?_); refine Step.load ST.out.one rfl rfl rfl pl_int rfl ?_)
      | ((with_reducible refine Step.gate_load (t := 4) rfl ?_); refine Step.load ST.out.one rfl rfl rfl pl_bool rfl ?_)
      | ((with_reducible refine Step.gate_load (t := 41) rfl ?_); refine Step.loadAll ST.out.one rfl rfl rfl Try.underlying41 rfl size_inst ?_)
      | ((with_reducible refine Step.gate_store (t := 3) rfl ?_); refine Step.store ST.out.two rfl rfl rfl rfl rfl pl_int rfl rfl ?_; intro w3 nb m; have st_ := Lib.hid (ST.out.set2 nb m); clear ST nb m; have ST := st_)
      | ((with_reducible refine Step.gate_store (t := 4) rfl ?_); refine Step.store ST.out.two rfl rfl rfl rfl rfl pl_bool rfl rfl ?_; intro w3 nb m; have st_ := Lib.hid (ST.out.set2 nb m); clear ST nb m; have ST := st_)
      | ((with_reducible refine Step.gate_store (t := 41) rfl ?_); refine Step.storeAll ST.out.two rfl rfl rfl rfl rfl size_inst rfl rfl ?_; intro w3 nb m; have st_ := Lib.hid (ST.out.set2 nb m); clear ST nb m; have ST := st_)
      | ((with_reducible refine Step.gate_load (t := 3) rfl ?_); refine Step.load ST.out.two rfl rfl rfl pl_int rfl ?_)
      | ((with_reducible refine Step.gate_load (t := 4) rfl ?_); refine Step.load ST.out.two rfl rfl rfl pl_bool rfl ?_)
      | ((with_reducible refine Step.gate_load (t := 41) rfl ?_); refine Step.loadAll ST.out.two rfl rfl rfl Try.underlying41 rfl size_inst ?_))
    refine bodyPost_ret (results_row_tmp rfl _ _ g1 _ _ _ rfl ST.out.one Try.underlying41 rfl size_inst) rfl ⟨rfl, ST.out.below⟩
set_option maxHeartbeats 2000000 in
theorem atomic_no (a : Int) (ha : W32 a) (h2 : fd a 14 12 ≠ 2) (h3 : fd a 14 12 ≠ 3) (w : World) : Calls Try.prog 38 #[.int .u32 a] w fun e w' => e = .returned (.tuple #[.agg #[.int .i64 0, .int .i64 0, .int .i64 (fd a 11 7), .int .i64 (fd a 19 15), .int .i64 (fd a 24 20), .int .i64 0, .int .i64 (pk ([1, 2, 4, 8, 16, 32, 64, 128] : List Int) (fd a 14 12)), .bool false], .bool false]) ∧ Below w.heap.size w w' := by
  have T0 := Lib.hid (fun w => calls_below (f3_any a ha w))
  have T1 := Lib.hid (fun w => calls_below (rd_any a ha w))
  have T2 := Lib.hid (fun w => calls_below (rs1_any a ha w))
  have T3 := Lib.hid (fun w => calls_below (rs2_any a ha w))
  have T4 := Lib.hid (fun w => calls_below (f7_any a ha w))
  have HX := Lib.hid (fd_lit (a := a) (h := 14) (l := 12) (n := 8) rfl)
  generalize fd a 14 12 = x at *
  generalize fd a 11 7 = rd at *
  generalize fd a 19 15 = rs1 at *
  generalize fd a 24 20 = rs2 at *
  generalize fd a 31 25 = s at *
  obtain h | h | h | h | h | h : x = 0 ∨ x = 1 ∨ x = 4 ∨ x = 5 ∨ x = 6 ∨ x = 7 := by have := HX.out; omega
  · subst h
    go_enter Try.func38, Try.ntmps38
    go_wp2_with (first
      | (go_at_call 36; (with_reducible refine (T0.out _).mono ?_); rintro e w' ⟨rfl, hb⟩; (try (have pb_ := Lib.hid (PB.out.below hb); clear PB; have PB := pb_)); have st_ := Lib.hid (ST.out.call hb); clear ST hb; have ST := st_)
      | (go_at_call 40; (with_reducible refine (T1.out _).mono ?_); rintro e w' ⟨rfl, hb⟩; (try (have pb_ := Lib.hid (PB.out.below hb); clear PB; have PB := pb_)); have st_ := Lib.hid (ST.out.call hb); clear ST hb; have ST := st_)
      | (go_at_call 41; (with_reducible refine (T2.out _).mono ?_); rintro e w' ⟨rfl, hb⟩; (try (have pb_ := Lib.hid (PB.out.below hb); clear PB; have PB := pb_)); have st_ := Lib.hid (ST.out.call hb); clear ST hb; have ST := st_)
      | (go_at_call 42; (with_reducible refine (T3.out _).mono ?_); rintro e w' ⟨rfl, hb⟩; (try (have pb_ := Lib.hid (PB.out.below hb); clear PB; have PB := pb_)); have st_ := Lib.hid (ST.out.call hb); clear ST hb; have ST := st_)
      | (go_at_call 46; (with_reducible refine (T4.out _).mono ?_); rintro e w' ⟨rfl, hb⟩; (try (have pb_ := Lib.hid (PB.out.below hb); clear PB; have PB := pb_)); have st_ := Lib.hid (ST.out.call hb); clear ST hb; have ST := st_)
      | ((with_reducible refine Step.gate_alloc (t := 41) rfl ?_); refine Step.freshAlloc rfl rfl (alloc_agg zero_inst) ?_; intro g2 w2 b hg hb; have st_ := Lib.hid (ST.out.more b hg hb); clear ST b hg hb; have ST := st_)
      | ((with_reducible refine Step.gate_alloc (t := 41) rfl ?_); refine Step.freshAlloc rfl rfl (alloc_agg zero_inst) ?_; intro g1 w1 b hg hb; have ST := Lib.hid (S1.made b hg hb); clear b hg hb)
      | ((with_reducible refine Calm.region_alloc (id := 1) (fin := ?fin_8) ?hm_8 11 10 4 ?o1_8 (.cells #[.int .i64 0, .int .i64 0, .int .i64 0, .int .i64 0, .int .i64 0, .int .i64 0, .int .i64 0, .bool false] 41 (0, 0)) [(6, .int .u32 a), (7, .int .i64 0), (8, .int .i64 1), (9, .int .u32 a), (10, .int .i64 rd), (11, .int .u32 a), (12, .int .i64 rs1), (13, .int .u32 a), (14, .int .i64 rs2), (15, .agg #[.int .i64 0, .int .i64 0, .int .i64 rd, .int .i64 rs1, .int .i64 rs2, .int .i64 0, .int .i64 1, .bool false])] ?hp_8 ?hin_8 ?hsolo_8 ?hoa_8 (by decide) ?hda_8 ?hga_8 ?hrun_8 ?hfin_8 ?hcalm_8 ?_); (case hm_8 => rfl); (case hoa_8 => rfl); (case hp_8 => kernel_rfl); (case hin_8 => kernel_rfl); (case hsolo_8 => kernel_rfl); (case hda_8 => rfl); (case hga_8 => rfl); (case hrun_8 => exact alloc_run rfl zero_inst); (case hfin_8 => (simp only [Reg.puts, Act.put, List.setIfInBounds_toArray, List.set_cons_zero, List.set_cons_succ]; try rfl)); (case hcalm_8 => (simp only [List.take, List.eraseIdx]; (repeat' (first | exact Calm.calm_nil | refine Calm.calm_cons ?_ ?_)); all_goals (first | exact calm_callg rfl rfl (fun X => by go_simp) (fun X => T0.out X) rfl | exact calm_callg rfl rfl (fun X => by go_simp) (fun X => T1.out X) rfl | exact calm_callg rfl rfl (fun X => by go_simp) (fun X => T2.out X) rfl | exact calm_callg rfl rfl (fun X => by go_simp) (fun X => T3.out X) rfl | exact calm_slot rfl rfl (fun X => by first | (go_simp; done) | (go_simp; rfl))))); intro g2 w1 hg hlt hb ho; have st_ := Lib.hid (ST.out.more ⟨ho⟩ hg hb); clear ST; have ST := st_; clear hg hlt hb ho; simp only [List.drop, Calm.ptr, Act.put, List.setIfInBounds_toArray, List.set_cons_zero, List.set_cons_succ])
      | ((with_reducible refine Step.gate_store (t := 3) rfl ?_); refine Step.store ST.out.one rfl rfl rfl rfl rfl pl_int rfl rfl ?_; intro w3 nb m; have st_ := Lib.hid (ST.out.set1 nb m); clear ST nb m; have ST := st_)
      | ((with_reducible refine Step.gate_store (t := 4) rfl ?_); refine Step.store ST.out.one rfl rfl rfl rfl rfl pl_bool rfl rfl ?_; intro w3 nb m; have st_ := Lib.hid (ST.out.set1 nb m); clear ST nb m; have ST := st_)
      | ((with_reducible refine Step.gate_store (t := 41) rfl ?_); refine Step.storeAll ST.out.one rfl rfl rfl rfl rfl size_inst rfl rfl ?_; intro w3 nb m; have st_ := Lib.hid (ST.out.set1 nb m); clear ST nb m; have ST := st_)
      | ((with_reducible refine Step.gate_load (t := 3) rfl ?_); refine Step.load ST.out.one rfl rfl rfl pl_int rfl ?_)
      | ((with_reducible refine Step.gate_load (t := 4) rfl ?_); refine Step.load ST.out.one rfl rfl rfl pl_bool rfl ?_)
      | ((with_reducible refine Step.gate_load (t := 41) rfl ?_); refine Step.loadAll ST.out.one rfl rfl rfl Try.underlying41 rfl size_inst ?_)
      | ((with_reducible refine Step.gate_store (t := 3) rfl ?_); refine Step.store ST.out.two rfl rfl rfl rfl rfl pl_int rfl rfl ?_; intro w3 nb m; have st_ := Lib.hid (ST.out.set2 nb m); clear ST nb m; have ST := st_)
      | ((with_reducible refine Step.gate_store (t := 4) rfl ?_); refine Step.store ST.out.two rfl rfl rfl rfl rfl pl_bool rfl rfl ?_; intro w3 nb m; have st_ := Lib.hid (ST.out.set2 nb m); clear ST nb m; have ST := st_)
      | ((with_reducible refine Step.gate_store (t := 41) rfl ?_); refine Step.storeAll ST.out.two rfl rfl rfl rfl rfl size_inst rfl rfl ?_; intro w3 nb m; have st_ := Lib.hid (ST.out.set2 nb m); clear ST nb m; have ST := st_)
      | ((with_reducible refine Step.gate_load (t := 3) rfl ?_); refine Step.load ST.out.two rfl rfl rfl pl_int rfl ?_)
      | ((with_reducible refine Step.gate_load (t := 4) rfl ?_); refine Step.load ST.out.two rfl rfl rfl pl_bool rfl ?_)
      | ((with_reducible refine Step.gate_load (t := 41) rfl ?_); refine Step.loadAll ST.out.two rfl rfl rfl Try.underlying41 rfl size_inst ?_))
    refine bodyPost_ret (results_row_tmp rfl _ _ g1 _ _ _ rfl ST.out.one Try.underlying41 rfl size_inst) rfl ⟨rfl, ST.out.below⟩
  · subst h
    go_enter Try.func38, Try.ntmps38
    go_wp2_with (first
      | (go_at_call 36; (with_reducible refine (T0.out _).mono ?_); rintro e w' ⟨rfl, hb⟩; (try (have pb_ := Lib.hid (PB.out.below hb); clear PB; have PB := pb_)); have st_ := Lib.hid (ST.out.call hb); clear ST hb; have ST := st_)
      | (go_at_call 40; (with_reducible refine (T1.out _).mono ?_); rintro e w' ⟨rfl, hb⟩; (try (have pb_ := Lib.hid (PB.out.below hb); clear PB; have PB := pb_)); have st_ := Lib.hid (ST.out.call hb); clear ST hb; have ST := st_)
      | (go_at_call 41; (with_reducible refine (T2.out _).mono ?_); rintro e w' ⟨rfl, hb⟩; (try (have pb_ := Lib.hid (PB.out.below hb); clear PB; have PB := pb_)); have st_ := Lib.hid (ST.out.call hb); clear ST hb; have ST := st_)
      | (go_at_call 42; (with_reducible refine (T3.out _).mono ?_); rintro e w' ⟨rfl, hb⟩; (try (have pb_ := Lib.hid (PB.out.below hb); clear PB; have PB := pb_)); have st_ := Lib.hid (ST.out.call hb); clear ST hb; have ST := st_)
      | (go_at_call 46; (with_reducible refine (T4.out _).mono ?_); rintro e w' ⟨rfl, hb⟩; (try (have pb_ := Lib.hid (PB.out.below hb); clear PB; have PB := pb_)); have st_ := Lib.hid (ST.out.call hb); clear ST hb; have ST := st_)
      | ((with_reducible refine Step.gate_alloc (t := 41) rfl ?_); refine Step.freshAlloc rfl rfl (alloc_agg zero_inst) ?_; intro g2 w2 b hg hb; have st_ := Lib.hid (ST.out.more b hg hb); clear ST b hg hb; have ST := st_)
      | ((with_reducible refine Step.gate_alloc (t := 41) rfl ?_); refine Step.freshAlloc rfl rfl (alloc_agg zero_inst) ?_; intro g1 w1 b hg hb; have ST := Lib.hid (S1.made b hg hb); clear b hg hb)
      | ((with_reducible refine Calm.region_alloc (id := 1) (fin := ?fin_9) ?hm_9 11 10 4 ?o1_9 (.cells #[.int .i64 0, .int .i64 0, .int .i64 0, .int .i64 0, .int .i64 0, .int .i64 0, .int .i64 0, .bool false] 41 (0, 0)) [(6, .int .u32 a), (7, .int .i64 1), (8, .int .i64 2), (9, .int .u32 a), (10, .int .i64 rd), (11, .int .u32 a), (12, .int .i64 rs1), (13, .int .u32 a), (14, .int .i64 rs2), (15, .agg #[.int .i64 0, .int .i64 0, .int .i64 rd, .int .i64 rs1, .int .i64 rs2, .int .i64 0, .int .i64 2, .bool false])] ?hp_9 ?hin_9 ?hsolo_9 ?hoa_9 (by decide) ?hda_9 ?hga_9 ?hrun_9 ?hfin_9 ?hcalm_9 ?_); (case hm_9 => rfl); (case hoa_9 => rfl); (case hp_9 => kernel_rfl); (case hin_9 => kernel_rfl); (case hsolo_9 => kernel_rfl); (case hda_9 => rfl); (case hga_9 => rfl); (case hrun_9 => exact alloc_run rfl zero_inst); (case hfin_9 => (simp only [Reg.puts, Act.put, List.setIfInBounds_toArray, List.set_cons_zero, List.set_cons_succ]; try rfl)); (case hcalm_9 => (simp only [List.take, List.eraseIdx]; (repeat' (first | exact Calm.calm_nil | refine Calm.calm_cons ?_ ?_)); all_goals (first | exact calm_callg rfl rfl (fun X => by go_simp) (fun X => T0.out X) rfl | exact calm_callg rfl rfl (fun X => by go_simp) (fun X => T1.out X) rfl | exact calm_callg rfl rfl (fun X => by go_simp) (fun X => T2.out X) rfl | exact calm_callg rfl rfl (fun X => by go_simp) (fun X => T3.out X) rfl | exact calm_slot rfl rfl (fun X => by first | (go_simp; done) | (go_simp; rfl))))); intro g2 w1 hg hlt hb ho; have st_ := Lib.hid (ST.out.more ⟨ho⟩ hg hb); clear ST; have ST := st_; clear hg hlt hb ho; simp only [List.drop, Calm.ptr, Act.put, List.setIfInBounds_toArray, List.set_cons_zero, List.set_cons_succ])
      | ((with_reducible refine Step.gate_store (t := 3) rfl ?_); refine Step.store ST.out.one rfl rfl rfl rfl rfl pl_int rfl rfl ?_; intro w3 nb m; have st_ := Lib.hid (ST.out.set1 nb m); clear ST nb m; have ST := st_)
      | ((with_reducible refine Step.gate_store (t := 4) rfl ?_); refine Step.store ST.out.one rfl rfl rfl rfl rfl pl_bool rfl rfl ?_; intro w3 nb m; have st_ := Lib.hid (ST.out.set1 nb m); clear ST nb m; have ST := st_)
      | ((with_reducible refine Step.gate_store (t := 41) rfl ?_); refine Step.storeAll ST.out.one rfl rfl rfl rfl rfl size_inst rfl rfl ?_; intro w3 nb m; have st_ := Lib.hid (ST.out.set1 nb m); clear ST nb m; have ST := st_)
      | ((with_reducible refine Step.gate_load (t := 3) rfl ?_); refine Step.load ST.out.one rfl rfl rfl pl_int rfl ?_)
      | ((with_reducible refine Step.gate_load (t := 4) rfl ?_); refine Step.load ST.out.one rfl rfl rfl pl_bool rfl ?_)
      | ((with_reducible refine Step.gate_load (t := 41) rfl ?_); refine Step.loadAll ST.out.one rfl rfl rfl Try.underlying41 rfl size_inst ?_)
      | ((with_reducible refine Step.gate_store (t := 3) rfl ?_); refine Step.store ST.out.two rfl rfl rfl rfl rfl pl_int rfl rfl ?_; intro w3 nb m; have st_ := Lib.hid (ST.out.set2 nb m); clear ST nb m; have ST := st_)
      | ((with_reducible refine Step.gate_store (t := 4) rfl ?_); refine Step.store ST.out.two rfl rfl rfl rfl rfl pl_bool rfl rfl ?_; intro w3 nb m; have st_ := Lib.hid (ST.out.set2 nb m); clear ST nb m; have ST := st_)
      | ((with_reducible refine Step.gate_store (t := 41) rfl ?_); refine Step.storeAll ST.out.two rfl rfl rfl rfl rfl size_inst rfl rfl ?_; intro w3 nb m; have st_ := Lib.hid (ST.out.set2 nb m); clear ST nb m; have ST := st_)
      | ((with_reducible refine Step.gate_load (t := 3) rfl ?_); refine Step.load ST.out.two rfl rfl rfl pl_int rfl ?_)
      | ((with_reducible refine Step.gate_load (t := 4) rfl ?_); refine Step.load ST.out.two rfl rfl rfl pl_bool rfl ?_)
      | ((with_reducible refine Step.gate_load (t := 41) rfl ?_); refine Step.loadAll ST.out.two rfl rfl rfl Try.underlying41 rfl size_inst ?_))
    refine bodyPost_ret (results_row_tmp rfl _ _ g1 _ _ _ rfl ST.out.one Try.underlying41 rfl size_inst) rfl ⟨rfl, ST.out.below⟩
  · subst h
    go_enter Try.func38, Try.ntmps38
    go_wp2_with (first
      | (go_at_call 36; (with_reducible refine (T0.out _).mono ?_); rintro e w' ⟨rfl, hb⟩; (try (have pb_ := Lib.hid (PB.out.below hb); clear PB; have PB := pb_)); have st_ := Lib.hid (ST.out.call hb); clear ST hb; have ST := st_)
      | (go_at_call 40; (with_reducible refine (T1.out _).mono ?_); rintro e w' ⟨rfl, hb⟩; (try (have pb_ := Lib.hid (PB.out.below hb); clear PB; have PB := pb_)); have st_ := Lib.hid (ST.out.call hb); clear ST hb; have ST := st_)
      | (go_at_call 41; (with_reducible refine (T2.out _).mono ?_); rintro e w' ⟨rfl, hb⟩; (try (have pb_ := Lib.hid (PB.out.below hb); clear PB; have PB := pb_)); have st_ := Lib.hid (ST.out.call hb); clear ST hb; have ST := st_)
      | (go_at_call 42; (with_reducible refine (T3.out _).mono ?_); rintro e w' ⟨rfl, hb⟩; (try (have pb_ := Lib.hid (PB.out.below hb); clear PB; have PB := pb_)); have st_ := Lib.hid (ST.out.call hb); clear ST hb; have ST := st_)
      | (go_at_call 46; (with_reducible refine (T4.out _).mono ?_); rintro e w' ⟨rfl, hb⟩; (try (have pb_ := Lib.hid (PB.out.below hb); clear PB; have PB := pb_)); have st_ := Lib.hid (ST.out.call hb); clear ST hb; have ST := st_)
      | ((with_reducible refine Step.gate_alloc (t := 41) rfl ?_); refine Step.freshAlloc rfl rfl (alloc_agg zero_inst) ?_; intro g2 w2 b hg hb; have st_ := Lib.hid (ST.out.more b hg hb); clear ST b hg hb; have ST := st_)
      | ((with_reducible refine Step.gate_alloc (t := 41) rfl ?_); refine Step.freshAlloc rfl rfl (alloc_agg zero_inst) ?_; intro g1 w1 b hg hb; have ST := Lib.hid (S1.made b hg hb); clear b hg hb)
      | ((with_reducible refine Calm.region_alloc (id := 1) (fin := ?fin_10) ?hm_10 11 10 4 ?o1_10 (.cells #[.int .i64 0, .int .i64 0, .int .i64 0, .int .i64 0, .int .i64 0, .int .i64 0, .int .i64 0, .bool false] 41 (0, 0)) [(6, .int .u32 a), (7, .int .i64 4), (8, .int .i64 16), (9, .int .u32 a), (10, .int .i64 rd), (11, .int .u32 a), (12, .int .i64 rs1), (13, .int .u32 a), (14, .int .i64 rs2), (15, .agg #[.int .i64 0, .int .i64 0, .int .i64 rd, .int .i64 rs1, .int .i64 rs2, .int .i64 0, .int .i64 16, .bool false])] ?hp_10 ?hin_10 ?hsolo_10 ?hoa_10 (by decide) ?hda_10 ?hga_10 ?hrun_10 ?hfin_10 ?hcalm_10 ?_); (case hm_10 => rfl); (case hoa_10 => rfl); (case hp_10 => kernel_rfl); (case hin_10 => kernel_rfl); (case hsolo_10 => kernel_rfl); (case hda_10 => rfl); (case hga_10 => rfl); (case hrun_10 => exact alloc_run rfl zero_inst); (case hfin_10 => (simp only [Reg.puts, Act.put, List.setIfInBounds_toArray, List.set_cons_zero, List.set_cons_succ]; try rfl)); (case hcalm_10 => (simp only [List.take, List.eraseIdx]; (repeat' (first | exact Calm.calm_nil | refine Calm.calm_cons ?_ ?_)); all_goals (first | exact calm_callg rfl rfl (fun X => by go_simp) (fun X => T0.out X) rfl | exact calm_callg rfl rfl (fun X => by go_simp) (fun X => T1.out X) rfl | exact calm_callg rfl rfl (fun X => by go_simp) (fun X => T2.out X) rfl | exact calm_callg rfl rfl (fun X => by go_simp) (fun X => T3.out X) rfl | exact calm_slot rfl rfl (fun X => by first | (go_simp; done) | (go_simp; rfl))))); intro g2 w1 hg hlt hb ho; have st_ := Lib.hid (ST.out.more ⟨ho⟩ hg hb); clear ST; have ST := st_; clear hg hlt hb ho; simp only [List.drop, Calm.ptr, Act.put, List.setIfInBounds_toArray, List.set_cons_zero, List.set_cons_succ])
      | ((with_reducible refine Step.gate_store (t := 3) rfl ?_); refine Step.store ST.out.one rfl rfl rfl rfl rfl pl_int rfl rfl ?_; intro w3 nb m; have st_ := Lib.hid (ST.out.set1 nb m); clear ST nb m; have ST := st_)
      | ((with_reducible refine Step.gate_store (t := 4) rfl ?_); refine Step.store ST.out.one rfl rfl rfl rfl rfl pl_bool rfl rfl ?_; intro w3 nb m; have st_ := Lib.hid (ST.out.set1 nb m); clear ST nb m; have ST := st_)
      | ((with_reducible refine Step.gate_store (t := 41) rfl ?_); refine Step.storeAll ST.out.one rfl rfl rfl rfl rfl size_inst rfl rfl ?_; intro w3 nb m; have st_ := Lib.hid (ST.out.set1 nb m); clear ST nb m; have ST := st_)
      | ((with_reducible refine Step.gate_load (t := 3) rfl ?_); refine Step.load ST.out.one rfl rfl rfl pl_int rfl ?_)
      | ((with_reducible refine Step.gate_load (t := 4) rfl ?_); refine Step.load ST.out.one rfl rfl rfl pl_bool rfl ?_)
      | ((with_reducible refine Step.gate_load (t := 41) rfl ?_); refine Step.loadAll ST.out.one rfl rfl rfl Try.underlying41 rfl size_inst ?_)
      | ((with_reducible refine Step.gate_store (t := 3) rfl ?_); refine Step.store ST.out.two rfl rfl rfl rfl rfl pl_int rfl rfl ?_; intro w3 nb m; have st_ := Lib.hid (ST.out.set2 nb m); clear ST nb m; have ST := st_)
      | ((with_reducible refine Step.gate_store (t := 4) rfl ?_); refine Step.store ST.out.two rfl rfl rfl rfl rfl pl_bool rfl rfl ?_; intro w3 nb m; have st_ := Lib.hid (ST.out.set2 nb m); clear ST nb m; have ST := st_)
      | ((with_reducible refine Step.gate_store (t := 41) rfl ?_); refine Step.storeAll ST.out.two rfl rfl rfl rfl rfl size_inst rfl rfl ?_; intro w3 nb m; have st_ := Lib.hid (ST.out.set2 nb m); clear ST nb m; have ST := st_)
      | ((with_reducible refine Step.gate_load (t := 3) rfl ?_); refine Step.load ST.out.two rfl rfl rfl pl_int rfl ?_)
      | ((with_reducible refine Step.gate_load (t := 4) rfl ?_); refine Step.load ST.out.two rfl rfl rfl pl_bool rfl ?_)
      | ((with_reducible refine Step.gate_load (t := 41) rfl ?_); refine Step.loadAll ST.out.two rfl rfl rfl Try.underlying41 rfl size_inst ?_))
    refine bodyPost_ret (results_row_tmp rfl _ _ g1 _ _ _ rfl ST.out.one Try.underlying41 rfl size_inst) rfl ⟨rfl, ST.out.below⟩
  · subst h
    go_enter Try.func38, Try.ntmps38
    go_wp2_with (first
      | (go_at_call 36; (with_reducible refine (T0.out _).mono ?_); rintro e w' ⟨rfl, hb⟩; (try (have pb_ := Lib.hid (PB.out.below hb); clear PB; have PB := pb_)); have st_ := Lib.hid (ST.out.call hb); clear ST hb; have ST := st_)
      | (go_at_call 40; (with_reducible refine (T1.out _).mono ?_); rintro e w' ⟨rfl, hb⟩; (try (have pb_ := Lib.hid (PB.out.below hb); clear PB; have PB := pb_)); have st_ := Lib.hid (ST.out.call hb); clear ST hb; have ST := st_)
      | (go_at_call 41; (with_reducible refine (T2.out _).mono ?_); rintro e w' ⟨rfl, hb⟩; (try (have pb_ := Lib.hid (PB.out.below hb); clear PB; have PB := pb_)); have st_ := Lib.hid (ST.out.call hb); clear ST hb; have ST := st_)
      | (go_at_call 42; (with_reducible refine (T3.out _).mono ?_); rintro e w' ⟨rfl, hb⟩; (try (have pb_ := Lib.hid (PB.out.below hb); clear PB; have PB := pb_)); have st_ := Lib.hid (ST.out.call hb); clear ST hb; have ST := st_)
      | (go_at_call 46; (with_reducible refine (T4.out _).mono ?_); rintro e w' ⟨rfl, hb⟩; (try (have pb_ := Lib.hid (PB.out.below hb); clear PB; have PB := pb_)); have st_ := Lib.hid (ST.out.call hb); clear ST hb; have ST := st_)
      | ((with_reducible refine Step.gate_alloc (t := 41) rfl ?_); refine Step.freshAlloc rfl rfl (alloc_agg zero_inst) ?_; intro g2 w2 b hg hb; have st_ := Lib.hid (ST.out.more b hg hb); clear ST b hg hb; have ST := st_)
      | ((with_reducible refine Step.gate_alloc (t := 41) rfl ?_); refine Step.freshAlloc rfl rfl (alloc_agg zero_inst) ?_; intro g1 w1 b hg hb; have ST := Lib.hid (S1.made b hg hb); clear b hg hb)
      | ((with_reducible refine Calm.region_alloc (id := 1) (fin := ?fin_11) ?hm_11 11 10 4 ?o1_11 (.cells #[.int .i64 0, .int .i64 0, .int .i64 0, .int .i64 0, .int .i64 0, .int .i64 0, .int .i64 0, .bool false] 41 (0, 0)) [(6, .int .u32 a), (7, .int .i64 5), (8, .int .i64 32), (9, .int .u32 a), (10, .int .i64 rd), (11, .int .u32 a), (12, .int .i64 rs1), (13, .int .u32 a), (14, .int .i64 rs2), (15, .agg #[.int .i64 0, .int .i64 0, .int .i64 rd, .int .i64 rs1, .int .i64 rs2, .int .i64 0, .int .i64 32, .bool false])] ?hp_11 ?hin_11 ?hsolo_11 ?hoa_11 (by decide) ?hda_11 ?hga_11 ?hrun_11 ?hfin_11 ?hcalm_11 ?_); (case hm_11 => rfl); (case hoa_11 => rfl); (case hp_11 => kernel_rfl); (case hin_11 => kernel_rfl); (case hsolo_11 => kernel_rfl); (case hda_11 => rfl); (case hga_11 => rfl); (case hrun_11 => exact alloc_run rfl zero_inst); (case hfin_11 => (simp only [Reg.puts, Act.put, List.setIfInBounds_toArray, List.set_cons_zero, List.set_cons_succ]; try rfl)); (case hcalm_11 => (simp only [List.take, List.eraseIdx]; (repeat' (first | exact Calm.calm_nil | refine Calm.calm_cons ?_ ?_)); all_goals (first | exact calm_callg rfl rfl (fun X => by go_simp) (fun X => T0.out X) rfl | exact calm_callg rfl rfl (fun X => by go_simp) (fun X => T1.out X) rfl | exact calm_callg rfl rfl (fun X => by go_simp) (fun X => T2.out X) rfl | exact calm_callg rfl rfl (fun X => by go_simp) (fun X => T3.out X) rfl | exact calm_slot rfl rfl (fun X => by first | (go_simp; done) | (go_simp; rfl))))); intro g2 w1 hg hlt hb ho; have st_ := Lib.hid (ST.out.more ⟨ho⟩ hg hb); clear ST; have ST := st_; clear hg hlt hb ho; simp only [List.drop, Calm.ptr, Act.put, List.setIfInBounds_toArray, List.set_cons_zero, List.set_cons_succ])
      | ((with_reducible refine Step.gate_store (t := 3) rfl ?_); refine Step.store ST.out.one rfl rfl rfl rfl rfl pl_int rfl rfl ?_; intro w3 nb m; have st_ := Lib.hid (ST.out.set1 nb m); clear ST nb m; have ST := st_)
      | ((with_reducible refine Step.gate_store (t := 4) rfl ?_); refine Step.store ST.out.one rfl rfl rfl rfl rfl pl_bool rfl rfl ?_; intro w3 nb m; have st_ := Lib.hid (ST.out.set1 nb m); clear ST nb m; have ST := st_)
      | ((with_reducible refine Step.gate_store (t := 41) rfl ?_); refine Step.storeAll ST.out.one rfl rfl rfl rfl rfl size_inst rfl rfl ?_; intro w3 nb m; have st_ := Lib.hid (ST.out.set1 nb m); clear ST nb m; have ST := st_)
      | ((with_reducible refine Step.gate_load (t := 3) rfl ?_); refine Step.load ST.out.one rfl rfl rfl pl_int rfl ?_)
      | ((with_reducible refine Step.gate_load (t := 4) rfl ?_); refine Step.load ST.out.one rfl rfl rfl pl_bool rfl ?_)
      | ((with_reducible refine Step.gate_load (t := 41) rfl ?_); refine Step.loadAll ST.out.one rfl rfl rfl Try.underlying41 rfl size_inst ?_)
      | ((with_reducible refine Step.gate_store (t := 3) rfl ?_); refine Step.store ST.out.two rfl rfl rfl rfl rfl pl_int rfl rfl ?_; intro w3 nb m; have st_ := Lib.hid (ST.out.set2 nb m); clear ST nb m; have ST := st_)
      | ((with_reducible refine Step.gate_store (t := 4) rfl ?_); refine Step.store ST.out.two rfl rfl rfl rfl rfl pl_bool rfl rfl ?_; intro w3 nb m; have st_ := Lib.hid (ST.out.set2 nb m); clear ST nb m; have ST := st_)
      | ((with_reducible refine Step.gate_store (t := 41) rfl ?_); refine Step.storeAll ST.out.two rfl rfl rfl rfl rfl size_inst rfl rfl ?_; intro w3 nb m; have st_ := Lib.hid (ST.out.set2 nb m); clear ST nb m; have ST := st_)
      | ((with_reducible refine Step.gate_load (t := 3) rfl ?_); refine Step.load ST.out.two rfl rfl rfl pl_int rfl ?_)
      | ((with_reducible refine Step.gate_load (t := 4) rfl ?_); refine Step.load ST.out.two rfl rfl rfl pl_bool rfl ?_)
      | ((with_reducible refine Step.gate_load (t := 41) rfl ?_); refine Step.loadAll ST.out.two rfl rfl rfl Try.underlying41 rfl size_inst ?_))
    refine bodyPost_ret (results_row_tmp rfl _ _ g1 _ _ _ rfl ST.out.one Try.underlying41 rfl size_inst) rfl ⟨rfl, ST.out.below⟩
  · subst h
    go_enter Try.func38, Try.ntmps38
    go_wp2_with (first
      | (go_at_call 36; (with_reducible refine (T0.out _).mono ?_); rintro e w' ⟨rfl, hb⟩; (try (have pb_ := Lib.hid (PB.out.below hb); clear PB; have PB := pb_)); have st_ := Lib.hid (ST.out.call hb); clear ST hb; have ST := st_)
      | (go_at_call 40; (with_reducible refine (T1.out _).mono ?_); rintro e w' ⟨rfl, hb⟩; (try (have pb_ := Lib.hid (PB.out.below hb); clear PB; have PB := pb_)); have st_ := Lib.hid (ST.out.call hb); clear ST hb; have ST := st_)
      | (go_at_call 41; (with_reducible refine (T2.out _).mono ?_); rintro e w' ⟨rfl, hb⟩; (try (have pb_ := Lib.hid (PB.out.below hb); clear PB; have PB := pb_)); have st_ := Lib.hid (ST.out.call hb); clear ST hb; have ST := st_)
      | (go_at_call 42; (with_reducible refine (T3.out _).mono ?_); rintro e w' ⟨rfl, hb⟩; (try (have pb_ := Lib.hid (PB.out.below hb); clear PB; have PB := pb_)); have st_ := Lib.hid (ST.out.call hb); clear ST hb; have ST := st_)
      | (go_at_call 46; (with_reducible refine (T4.out _).mono ?_); rintro e w' ⟨rfl, hb⟩; (try (have pb_ := Lib.hid (PB.out.below hb); clear PB; have PB := pb_)); have st_ := Lib.hid (ST.out.call hb); clear ST hb; have ST := st_)
      | ((with_reducible refine Step.gate_alloc (t := 41) rfl ?_); refine Step.freshAlloc rfl rfl (alloc_agg zero_inst) ?_; intro g2 w2 b hg hb; have st_ := Lib.hid (ST.out.more b hg hb); clear ST b hg hb; have ST := st_)
      | ((with_reducible refine Step.gate_alloc (t := 41) rfl ?_); refine Step.freshAlloc rfl rfl (alloc_agg zero_inst) ?_; intro g1 w1 b hg hb; have ST := Lib.hid (S1.made b hg hb); clear b hg hb)
      | ((with_reducible refine Calm.region_alloc (id := 1) (fin := ?fin_12) ?hm_12 11 10 4 ?o1_12 (.cells #[.int .i64 0, .int .i64 0, .int .i64 0, .int .i64 0, .int .i64 0, .int .i64 0, .int .i64 0, .bool false] 41 (0, 0)) [(6, .int .u32 a), (7, .int .i64 6), (8, .int .i64 64), (9, .int .u32 a), (10, .int .i64 rd), (11, .int .u32 a), (12, .int .i64 rs1), (13, .int .u32 a), (14, .int .i64 rs2), (15, .agg #[.int .i64 0, .int .i64 0, .int .i64 rd, .int .i64 rs1, .int .i64 rs2, .int .i64 0, .int .i64 64, .bool false])] ?hp_12 ?hin_12 ?hsolo_12 ?hoa_12 (by decide) ?hda_12 ?hga_12 ?hrun_12 ?hfin_12 ?hcalm_12 ?_); (case hm_12 => rfl); (case hoa_12 => rfl); (case hp_12 => kernel_rfl); (case hin_12 => kernel_rfl); (case hsolo_12 => kernel_rfl); (case hda_12 => rfl); (case hga_12 => rfl); (case hrun_12 => exact alloc_run rfl zero_inst); (case hfin_12 => (simp only [Reg.puts, Act.put, List.setIfInBounds_toArray, List.set_cons_zero, List.set_cons_succ]; try rfl)); (case hcalm_12 => (simp only [List.take, List.eraseIdx]; (repeat' (first | exact Calm.calm_nil | refine Calm.calm_cons ?_ ?_)); all_goals (first | exact calm_callg rfl rfl (fun X => by go_simp) (fun X => T0.out X) rfl | exact calm_callg rfl rfl (fun X => by go_simp) (fun X => T1.out X) rfl | exact calm_callg rfl rfl (fun X => by go_simp) (fun X => T2.out X) rfl | exact calm_callg rfl rfl (fun X => by go_simp) (fun X => T3.out X) rfl | exact calm_slot rfl rfl (fun X => by first | (go_simp; done) | (go_simp; rfl))))); intro g2 w1 hg hlt hb ho; have st_ := Lib.hid (ST.out.more ⟨ho⟩ hg hb); clear ST; have ST := st_; clear hg hlt hb ho; simp only [List.drop, Calm.ptr, Act.put, List.setIfInBounds_toArray, List.set_cons_zero, List.set_cons_succ])
      | ((with_reducible refine Step.gate_store (t := 3) rfl ?_); refine Step.store ST.out.one rfl rfl rfl rfl rfl pl_int rfl rfl ?_; intro w3 nb m; have st_ := Lib.hid (ST.out.set1 nb m); clear ST nb m; have ST := st_)
      | ((with_reducible refine Step.gate_store (t := 4) rfl ?_); refine Step.store ST.out.one rfl rfl rfl rfl rfl pl_bool rfl rfl ?_; intro w3 nb m; have st_ := Lib.hid (ST.out.set1 nb m); clear ST nb m; have ST := st_)
      | ((with_reducible refine Step.gate_store (t := 41) rfl ?_); refine Step.storeAll ST.out.one rfl rfl rfl rfl rfl size_inst rfl rfl ?_; intro w3 nb m; have st_ := Lib.hid (ST.out.set1 nb m); clear ST nb m; have ST := st_)
      | ((with_reducible refine Step.gate_load (t := 3) rfl ?_); refine Step.load ST.out.one rfl rfl rfl pl_int rfl ?_)
      | ((with_reducible refine Step.gate_load (t := 4) rfl ?_); refine Step.load ST.out.one rfl rfl rfl pl_bool rfl ?_)
      | ((with_reducible refine Step.gate_load (t := 41) rfl ?_); refine Step.loadAll ST.out.one rfl rfl rfl Try.underlying41 rfl size_inst ?_)
      | ((with_reducible refine Step.gate_store (t := 3) rfl ?_); refine Step.store ST.out.two rfl rfl rfl rfl rfl pl_int rfl rfl ?_; intro w3 nb m; have st_ := Lib.hid (ST.out.set2 nb m); clear ST nb m; have ST := st_)
      | ((with_reducible refine Step.gate_store (t := 4) rfl ?_); refine Step.store ST.out.two rfl rfl rfl rfl rfl pl_bool rfl rfl ?_; intro w3 nb m; have st_ := Lib.hid (ST.out.set2 nb m); clear ST nb m; have ST := st_)
      | ((with_reducible refine Step.gate_store (t := 41) rfl ?_); refine Step.storeAll ST.out.two rfl rfl rfl rfl rfl size_inst rfl rfl ?_; intro w3 nb m; have st_ := Lib.hid (ST.out.set2 nb m); clear ST nb m; have ST := st_)
      | ((with_reducible refine Step.gate_load (t := 3) rfl ?_); refine Step.load ST.out.two rfl rfl rfl pl_int rfl ?_)
      | ((with_reducible refine Step.gate_load (t := 4) rfl ?_); refine Step.load ST.out.two rfl rfl rfl pl_bool rfl ?_)
      | ((with_reducible refine Step.gate_load (t := 41) rfl ?_); refine Step.loadAll ST.out.two rfl rfl rfl Try.underlying41 rfl size_inst ?_))
    refine bodyPost_ret (results_row_tmp rfl _ _ g1 _ _ _ rfl ST.out.one Try.underlying41 rfl size_inst) rfl ⟨rfl, ST.out.below⟩
  · subst h
    go_enter Try.func38, Try.ntmps38
    go_wp2_with (first
      | (go_at_call 36; (with_reducible refine (T0.out _).mono ?_); rintro e w' ⟨rfl, hb⟩; (try (have pb_ := Lib.hid (PB.out.below hb); clear PB; have PB := pb_)); have st_ := Lib.hid (ST.out.call hb); clear ST hb; have ST := st_)
      | (go_at_call 40; (with_reducible refine (T1.out _).mono ?_); rintro e w' ⟨rfl, hb⟩; (try (have pb_ := Lib.hid (PB.out.below hb); clear PB; have PB := pb_)); have st_ := Lib.hid (ST.out.call hb); clear ST hb; have ST := st_)
      | (go_at_call 41; (with_reducible refine (T2.out _).mono ?_); rintro e w' ⟨rfl, hb⟩; (try (have pb_ := Lib.hid (PB.out.below hb); clear PB; have PB := pb_)); have st_ := Lib.hid (ST.out.call hb); clear ST hb; have ST := st_)
      | (go_at_call 42; (with_reducible refine (T3.out _).mono ?_); rintro e w' ⟨rfl, hb⟩; (try (have pb_ := Lib.hid (PB.out.below hb); clear PB; have PB := pb_)); have st_ := Lib.hid (ST.out.call hb); clear ST hb; have ST := st_)
      | (go_at_call 46; (with_reducible refine (T4.out _).mono ?_); rintro e w' ⟨rfl, hb⟩; (try (have pb_ := Lib.hid (PB.out.below hb); clear PB; have PB := pb_)); have st_ := Lib.hid (ST.out.call hb); clear ST hb; have ST := st_)
      | ((with_reducible refine Step.gate_alloc (t := 41) rfl ?_); refine Step.freshAlloc rfl rfl (alloc_agg zero_inst) ?_; intro g2 w2 b hg hb; have st_ := Lib.hid (ST.out.more b hg hb); clear ST b hg hb; have ST := st_)
      | ((with_reducible refine Step.gate_alloc (t := 41) rfl ?_); refine Step.freshAlloc rfl rfl (alloc_agg zero_inst) ?_; intro g1 w1 b hg hb; have ST := Lib.hid (S1.made b hg hb); clear b hg hb)
      | ((with_reducible refine Calm.region_alloc (id := 1) (fin := ?fin_13) ?hm_13 11 10 4 ?o1_13 (.cells #[.int .i64 0, .int .i64 0, .int .i64 0, .int .i64 0, .int .i64 0, .int .i64 0, .int .i64 0, .bool false] 41 (0, 0)) [(6, .int .u32 a), (7, .int .i64 7), (8, .int .i64 128), (9, .int .u32 a), (10, .int .i64 rd), (11, .int .u32 a), (12, .int .i64 rs1), (13, .int .u32 a), (14, .int .i64 rs2), (15, .agg #[.int .i64 0, .int .i64 0, .int .i64 rd, .int .i64 rs1, .int .i64 rs2, .int .i64 0, .int .i64 128, .bool false])] ?hp_13 ?hin_13 ?hsolo_13 ?hoa_13 (by decide) ?hda_13 ?hga_13 ?hrun_13 ?hfin_13 ?hcalm_13 ?_); (case hm_13 => rfl); (case hoa_13 => rfl); (case hp_13 => kernel_rfl); (case hin_13 => kernel_rfl); (case hsolo_13 => kernel_rfl); (case hda_13 => rfl); (case hga_13 => rfl); (case hrun_13 => exact alloc_run rfl zero_inst); (case hfin_13 => (simp only [Reg.puts, Act.put, List.setIfInBounds_toArray, List.set_cons_zero, List.set_cons_succ]; try rfl)); (case hcalm_13 => (simp only [List.take, List.eraseIdx]; (repeat' (first | exact Calm.calm_nil | refine Calm.calm_cons ?_ ?_)); all_goals (first | exact calm_callg rfl rfl (fun X => by go_simp) (fun X => T0.out X) rfl | exact calm_callg rfl rfl (fun X => by go_simp) (fun X => T1.out X) rfl | exact calm_callg rfl rfl (fun X => by go_simp) (fun X => T2.out X) rfl | exact calm_callg rfl rfl (fun X => by go_simp) (fun X => T3.out X) rfl | exact calm_slot rfl rfl (fun X => by first | (go_simp; done) | (go_simp; rfl))))); intro g2 w1 hg hlt hb ho; have st_ := Lib.hid (ST.out.more ⟨ho⟩ hg hb); clear ST; have ST := st_; clear hg hlt hb ho; simp only [List.drop, Calm.ptr, Act.put, List.setIfInBounds_toArray, List.set_cons_zero, List.set_cons_succ])
      | ((with_reducible refine Step.gate_store (t := 3) rfl ?_); refine Step.store ST.out.one rfl rfl rfl rfl rfl pl_int rfl rfl ?_; intro w3 nb m; have st_ := Lib.hid (ST.out.set1 nb m); clear ST nb m; have ST := st_)
      | ((with_reducible refine Step.gate_store (t := 4) rfl ?_); refine Step.store ST.out.one rfl rfl rfl rfl rfl pl_bool rfl rfl ?_; intro w3 nb m; have st_ := Lib.hid (ST.out.set1 nb m); clear ST nb m; have ST := st_)
      | ((with_reducible refine Step.gate_store (t := 41) rfl ?_); refine Step.storeAll ST.out.one rfl rfl rfl rfl rfl size_inst rfl rfl ?_; intro w3 nb m; have st_ := Lib.hid (ST.out.set1 nb m); clear ST nb m; have ST := st_)
      | ((with_reducible refine Step.gate_load (t := 3) rfl ?_); refine Step.load ST.out.one rfl rfl rfl pl_int rfl ?_)
      | ((with_reducible refine Step.gate_load (t := 4) rfl ?_); refine Step.load ST.out.one rfl rfl rfl pl_bool rfl ?_)
      | ((with_reducible refine Step.gate_load (t := 41) rfl ?_); refine Step.loadAll ST.out.one rfl rfl rfl Try.underlying41 rfl size_inst ?_)
      | ((with_reducible refine Step.gate_store (t := 3) rfl ?_); refine Step.store ST.out.two rfl rfl rfl rfl rfl pl_int rfl rfl ?_; intro w3 nb m; have st_ := Lib.hid (ST.out.set2 nb m); clear ST nb m; have ST := st_)
      | ((with_reducible refine Step.gate_store (t := 4) rfl ?_); refine Step.store ST.out.two rfl rfl rfl rfl rfl pl_bool rfl rfl ?_; intro w3 nb m; have st_ := Lib.hid (ST.out.set2 nb m); clear ST nb m; have ST := st_)
      | ((with_reducible refine Step.gate_store (t := 41) rfl ?_); refine Step.storeAll ST.out.two rfl rfl rfl rfl rfl size_inst rfl rfl ?_; intro w3 nb m; have st_ := Lib.hid (ST.out.set2 nb m); clear ST nb m; have ST := st_)
      | ((with_reducible refine Step.gate_load (t := 3) rfl ?_); refine Step.load ST.out.two rfl rfl rfl pl_int rfl ?_)
      | ((with_reducible refine Step.gate_load (t := 4) rfl ?_); refine Step.load ST.out.two rfl rfl rfl pl_bool rfl ?_)
      | ((with_reducible refine Step.gate_load (t := 41) rfl ?_); refine Step.loadAll ST.out.two rfl rfl rfl Try.underlying41 rfl size_inst ?_))
    refine bodyPost_ret (results_row_tmp rfl _ _ g1 _ _ _ rfl ST.out.one Try.underlying41 rfl size_inst) rfl ⟨rfl, ST.out.below⟩
/-- What an atomic is: kind, operation, whether it is one. -/
def atF (f rs2 : Int) : Int × Int × Bool :=
  if f = 2 then (15, 0, rs2 == 0) else if f = 3 then (16, 0, true) else if f = 1 then (17, 1, true) else if f % 4 = 0 then (17, pk ([2, 3, 5, 4, 6, 7, 8, 9] : List Int) (f / 4), true) else (0, 0, false)
set_option maxHeartbeats 2000000 in
theorem atomic_2 (a : Int) (ha : W32 a) (h : fd a 14 12 = 2) (w : World) : Calls Try.prog 38 #[.int .u32 a] w fun e w' => e = .returned (.tuple #[.agg #[.int .i64 ((atF (fd a 31 27) (fd a 24 20)).1), .int .i64 ((atF (fd a 31 27) (fd a 24 20)).2.1), .int .i64 (fd a 11 7), .int .i64 (fd a 19 15), .int .i64 (fd a 24 20), .int .i64 0, .int .i64 4, .bool false], .bool (atF (fd a 31 27) (fd a 24 20)).2.2]) ∧ Below w.heap.size w w' := by
  have T0 := Lib.hid (fun w => calls_below (f3_any a ha w))
  have T1 := Lib.hid (fun w => calls_below (rd_any a ha w))
  have T2 := Lib.hid (fun w => calls_below (rs1_any a ha w))
  have T3 := Lib.hid (fun w => calls_below (rs2_any a ha w))
  have T4 := Lib.hid (fun w => calls_below (f7_any a ha w))
  have T5 := Lib.hid (fun w => calls_below (bits_any a 31 27 31 27 ha rfl rfl (by decide) (by decide) w))
  have bf := fd_lit (a := a) (h := 31) (l := 27) (n := 32) rfl
  rw [h] at T0
  clear h
  generalize fd a 11 7 = rd at *
  generalize fd a 19 15 = rs1 at *
  generalize fd a 24 20 = rs2 at *
  generalize fd a 31 25 = s at *
  generalize fd a 31 27 = f at *
  unfold atF
  by_cases h2 : f = 2
  · rw [if_pos h2]
    clear bf
    go_enter Try.func38, Try.ntmps38
    go_wp2_with (first
      | (go_at_call 36; (with_reducible refine (T0.out _).mono ?_); rintro e w' ⟨rfl, hb⟩; (try (have pb_ := Lib.hid (PB.out.below hb); clear PB; have PB := pb_)); have st_ := Lib.hid (ST.out.call hb); clear ST hb; have ST := st_)
      | (go_at_call 40; (with_reducible refine (T1.out _).mono ?_); rintro e w' ⟨rfl, hb⟩; (try (have pb_ := Lib.hid (PB.out.below hb); clear PB; have PB := pb_)); have st_ := Lib.hid (ST.out.call hb); clear ST hb; have ST := st_)
      | (go_at_call 41; (with_reducible refine (T2.out _).mono ?_); rintro e w' ⟨rfl, hb⟩; (try (have pb_ := Lib.hid (PB.out.below hb); clear PB; have PB := pb_)); have st_ := Lib.hid (ST.out.call hb); clear ST hb; have ST := st_)
      | (go_at_call 42; (with_reducible refine (T3.out _).mono ?_); rintro e w' ⟨rfl, hb⟩; (try (have pb_ := Lib.hid (PB.out.below hb); clear PB; have PB := pb_)); have st_ := Lib.hid (ST.out.call hb); clear ST hb; have ST := st_)
      | (go_at_call 46; (with_reducible refine (T4.out _).mono ?_); rintro e w' ⟨rfl, hb⟩; (try (have pb_ := Lib.hid (PB.out.below hb); clear PB; have PB := pb_)); have st_ := Lib.hid (ST.out.call hb); clear ST hb; have ST := st_)
      | ((with_reducible refine Step.gate_alloc (t := 41) rfl ?_); refine Step.freshAlloc rfl rfl (alloc_agg zero_inst) ?_; intro g2 w2 b hg hb; have st_ := Lib.hid (ST.out.more b hg hb); clear ST b hg hb; have ST := st_)
      | ((with_reducible refine Step.gate_alloc (t := 41) rfl ?_); refine Step.freshAlloc rfl rfl (alloc_agg zero_inst) ?_; intro g1 w1 b hg hb; have ST := Lib.hid (S1.made b hg hb); clear b hg hb)
      | ((with_reducible refine Calm.region_alloc (id := 1) (fin := ?fin_15) ?hm_15 11 10 4 ?o1_15 (.cells #[.int .i64 0, .int .i64 0, .int .i64 0, .int .i64 0, .int .i64 0, .int .i64 0, .int .i64 0, .bool false] 41 (0, 0)) [(6, .int .u32 a), (7, .int .i64 2), (8, .int .i64 4), (9, .int .u32 a), (10, .int .i64 rd), (11, .int .u32 a), (12, .int .i64 rs1), (13, .int .u32 a), (14, .int .i64 rs2), (15, .agg #[.int .i64 0, .int .i64 0, .int .i64 rd, .int .i64 rs1, .int .i64 rs2, .int .i64 0, .int .i64 4, .bool false])] ?hp_15 ?hin_15 ?hsolo_15 ?hoa_15 (by decide) ?hda_15 ?hga_15 ?hrun_15 ?hfin_15 ?hcalm_15 ?_); (case hm_15 => rfl); (case hoa_15 => rfl); (case hp_15 => kernel_rfl); (case hin_15 => kernel_rfl); (case hsolo_15 => kernel_rfl); (case hda_15 => rfl); (case hga_15 => rfl); (case hrun_15 => exact alloc_run rfl zero_inst); (case hfin_15 => (simp only [Reg.puts, Act.put, List.setIfInBounds_toArray, List.set_cons_zero, List.set_cons_succ]; try rfl)); (case hcalm_15 => (simp only [List.take, List.eraseIdx]; (repeat' (first | exact Calm.calm_nil | refine Calm.calm_cons ?_ ?_)); all_goals (first | exact calm_callg rfl rfl (fun X => by go_simp) (fun X => T0.out X) rfl | exact calm_callg rfl rfl (fun X => by go_simp) (fun X => T1.out X) rfl | exact calm_callg rfl rfl (fun X => by go_simp) (fun X => T2.out X) rfl | exact calm_callg rfl rfl (fun X => by go_simp) (fun X => T3.out X) rfl | exact calm_slot rfl rfl (fun X => by first | (go_simp; done) | (go_simp; rfl))))); intro g2 w1 hg hlt hb ho; have st_ := Lib.hid (ST.out.more ⟨ho⟩ hg hb); clear ST; have ST := st_; clear hg hlt hb ho; simp only [List.drop, Calm.ptr, Act.put, List.setIfInBounds_toArray, List.set_cons_zero, List.set_cons_succ])
      | (go_at_call 45; (with_reducible refine (T5.out _).mono ?_); rintro e w' ⟨rfl, hb⟩; (try (have pb_ := Lib.hid (PB.out.below hb); clear PB; have PB := pb_)); have st_ := Lib.hid (ST.out.call hb); clear ST hb; have ST := st_)
      | ((with_reducible refine two_region (id := 12) (fin := ?fin_14) (ok := ?ok_14) (k := 4) (dn := #[.int .i64 15, .int .i64 0, .int .i64 rd, .int .i64 rs1, .int .i64 rs2, .int .i64 0, .int .i64 4, .bool false]) ST.out.swap ?hm_14 [(41, .agg #[.int .i64 15, .int .i64 0, .int .i64 rd, .int .i64 rs1, .int .i64 rs2, .int .i64 0, .int .i64 4, .bool false]), (42, .int .u32 a), (43, .int .i64 rs2), (44, .bool (rs2 == 0)), (3, .bool (rs2 == 0))] rfl ?hord_14 ?hin_14 ?hfin_14 ?hk_14 ?hset_14 ?hdo_14 ?_); (case hm_14 => rfl); (case hord_14 => kernel_rfl); (case hin_14 => kernel_rfl); (case hfin_14 => (simp only [Reg.puts, Act.put, List.setIfInBounds_toArray, List.set_cons_zero, List.set_cons_succ]; try rfl)); (case hk_14 => rfl); (case hset_14 => exact sets_all rfl rfl rfl rfl rfl size_inst rfl); (case hdo_14 => ((repeat' (first | exact stays_nil | refine stays_cons ?_ ?_)); all_goals (first | exact stays_loadAll rfl rfl rfl Try.underlying41 rfl size_inst rfl | exact stays_load rfl rfl rfl pl_int rfl rfl | exact stays_load rfl rfl rfl pl_bool rfl rfl | exact stays_call rfl rfl (fun X => by go_simp) (fun X => T3.out X) rfl | (exact stays_slot rfl rfl (fun X => by first | (go_simp; done) | (go_simp; rfl)))))); intro w' st_; clear ST; have ST := Lib.hid (S2.swap st_); clear st_)
      | ((with_reducible refine Step.gate_store (t := 3) rfl ?_); refine Step.store ST.out.one rfl rfl rfl rfl rfl pl_int rfl rfl ?_; intro w3 nb m; have st_ := Lib.hid (ST.out.set1 nb m); clear ST nb m; have ST := st_)
      | ((with_reducible refine Step.gate_store (t := 4) rfl ?_); refine Step.store ST.out.one rfl rfl rfl rfl rfl pl_bool rfl rfl ?_; intro w3 nb m; have st_ := Lib.hid (ST.out.set1 nb m); clear ST nb m; have ST := st_)
      | ((with_reducible refine Step.gate_store (t := 41) rfl ?_); refine Step.storeAll ST.out.one rfl rfl rfl rfl rfl size_inst rfl rfl ?_; intro w3 nb m; have st_ := Lib.hid (ST.out.set1 nb m); clear ST nb m; have ST := st_)
      | ((with_reducible refine Step.gate_load (t := 3) rfl ?_); refine Step.load ST.out.one rfl rfl rfl pl_int rfl ?_)
      | ((with_reducible refine Step.gate_load (t := 4) rfl ?_); refine Step.load ST.out.one rfl rfl rfl pl_bool rfl ?_)
      | ((with_reducible refine Step.gate_load (t := 41) rfl ?_); refine Step.loadAll ST.out.one rfl rfl rfl Try.underlying41 rfl size_inst ?_)
      | ((with_reducible refine Step.gate_store (t := 3) rfl ?_); refine Step.store ST.out.two rfl rfl rfl rfl rfl pl_int rfl rfl ?_; intro w3 nb m; have st_ := Lib.hid (ST.out.set2 nb m); clear ST nb m; have ST := st_)
      | ((with_reducible refine Step.gate_store (t := 4) rfl ?_); refine Step.store ST.out.two rfl rfl rfl rfl rfl pl_bool rfl rfl ?_; intro w3 nb m; have st_ := Lib.hid (ST.out.set2 nb m); clear ST nb m; have ST := st_)
      | ((with_reducible refine Step.gate_store (t := 41) rfl ?_); refine Step.storeAll ST.out.two rfl rfl rfl rfl rfl size_inst rfl rfl ?_; intro w3 nb m; have st_ := Lib.hid (ST.out.set2 nb m); clear ST nb m; have ST := st_)
      | ((with_reducible refine Step.gate_load (t := 3) rfl ?_); refine Step.load ST.out.two rfl rfl rfl pl_int rfl ?_)
      | ((with_reducible refine Step.gate_load (t := 4) rfl ?_); refine Step.load ST.out.two rfl rfl rfl pl_bool rfl ?_)
      | ((with_reducible refine Step.gate_load (t := 41) rfl ?_); refine Step.loadAll ST.out.two rfl rfl rfl Try.underlying41 rfl size_inst ?_))
    refine bodyPost_ret (results_row_tmp rfl _ _ g1 _ _ _ rfl ST.out.one Try.underlying41 rfl size_inst) rfl ⟨rfl, ST.out.below⟩
  rw [if_neg h2]
  by_cases h3 : f = 3
  · rw [if_pos h3]
    clear bf
    go_enter Try.func38, Try.ntmps38
    go_wp2_with (first
      | (go_at_call 36; (with_reducible refine (T0.out _).mono ?_); rintro e w' ⟨rfl, hb⟩; (try (have pb_ := Lib.hid (PB.out.below hb); clear PB; have PB := pb_)); have st_ := Lib.hid (ST.out.call hb); clear ST hb; have ST := st_)
      | (go_at_call 40; (with_reducible refine (T1.out _).mono ?_); rintro e w' ⟨rfl, hb⟩; (try (have pb_ := Lib.hid (PB.out.below hb); clear PB; have PB := pb_)); have st_ := Lib.hid (ST.out.call hb); clear ST hb; have ST := st_)
      | (go_at_call 41; (with_reducible refine (T2.out _).mono ?_); rintro e w' ⟨rfl, hb⟩; (try (have pb_ := Lib.hid (PB.out.below hb); clear PB; have PB := pb_)); have st_ := Lib.hid (ST.out.call hb); clear ST hb; have ST := st_)
      | (go_at_call 42; (with_reducible refine (T3.out _).mono ?_); rintro e w' ⟨rfl, hb⟩; (try (have pb_ := Lib.hid (PB.out.below hb); clear PB; have PB := pb_)); have st_ := Lib.hid (ST.out.call hb); clear ST hb; have ST := st_)
      | (go_at_call 46; (with_reducible refine (T4.out _).mono ?_); rintro e w' ⟨rfl, hb⟩; (try (have pb_ := Lib.hid (PB.out.below hb); clear PB; have PB := pb_)); have st_ := Lib.hid (ST.out.call hb); clear ST hb; have ST := st_)
      | ((with_reducible refine Step.gate_alloc (t := 41) rfl ?_); refine Step.freshAlloc rfl rfl (alloc_agg zero_inst) ?_; intro g2 w2 b hg hb; have st_ := Lib.hid (ST.out.more b hg hb); clear ST b hg hb; have ST := st_)
      | ((with_reducible refine Step.gate_alloc (t := 41) rfl ?_); refine Step.freshAlloc rfl rfl (alloc_agg zero_inst) ?_; intro g1 w1 b hg hb; have ST := Lib.hid (S1.made b hg hb); clear b hg hb)
      | ((with_reducible refine Calm.region_alloc (id := 1) (fin := ?fin_16) ?hm_16 11 10 4 ?o1_16 (.cells #[.int .i64 0, .int .i64 0, .int .i64 0, .int .i64 0, .int .i64 0, .int .i64 0, .int .i64 0, .bool false] 41 (0, 0)) [(6, .int .u32 a), (7, .int .i64 2), (8, .int .i64 4), (9, .int .u32 a), (10, .int .i64 rd), (11, .int .u32 a), (12, .int .i64 rs1), (13, .int .u32 a), (14, .int .i64 rs2), (15, .agg #[.int .i64 0, .int .i64 0, .int .i64 rd, .int .i64 rs1, .int .i64 rs2, .int .i64 0, .int .i64 4, .bool false])] ?hp_16 ?hin_16 ?hsolo_16 ?hoa_16 (by decide) ?hda_16 ?hga_16 ?hrun_16 ?hfin_16 ?hcalm_16 ?_); (case hm_16 => rfl); (case hoa_16 => rfl); (case hp_16 => kernel_rfl); (case hin_16 => kernel_rfl); (case hsolo_16 => kernel_rfl); (case hda_16 => rfl); (case hga_16 => rfl); (case hrun_16 => exact alloc_run rfl zero_inst); (case hfin_16 => (simp only [Reg.puts, Act.put, List.setIfInBounds_toArray, List.set_cons_zero, List.set_cons_succ]; try rfl)); (case hcalm_16 => (simp only [List.take, List.eraseIdx]; (repeat' (first | exact Calm.calm_nil | refine Calm.calm_cons ?_ ?_)); all_goals (first | exact calm_callg rfl rfl (fun X => by go_simp) (fun X => T0.out X) rfl | exact calm_callg rfl rfl (fun X => by go_simp) (fun X => T1.out X) rfl | exact calm_callg rfl rfl (fun X => by go_simp) (fun X => T2.out X) rfl | exact calm_callg rfl rfl (fun X => by go_simp) (fun X => T3.out X) rfl | exact calm_slot rfl rfl (fun X => by first | (go_simp; done) | (go_simp; rfl))))); intro g2 w1 hg hlt hb ho; have st_ := Lib.hid (ST.out.more ⟨ho⟩ hg hb); clear ST; have ST := st_; clear hg hlt hb ho; simp only [List.drop, Calm.ptr, Act.put, List.setIfInBounds_toArray, List.set_cons_zero, List.set_cons_succ])
      | (go_at_call 45; (with_reducible refine (T5.out _).mono ?_); rintro e w' ⟨rfl, hb⟩; (try (have pb_ := Lib.hid (PB.out.below hb); clear PB; have PB := pb_)); have st_ := Lib.hid (ST.out.call hb); clear ST hb; have ST := st_)
      | ((with_reducible refine Step.gate_store (t := 3) rfl ?_); refine Step.store ST.out.one rfl rfl rfl rfl rfl pl_int rfl rfl ?_; intro w3 nb m; have st_ := Lib.hid (ST.out.set1 nb m); clear ST nb m; have ST := st_)
      | ((with_reducible refine Step.gate_store (t := 4) rfl ?_); refine Step.store ST.out.one rfl rfl rfl rfl rfl pl_bool rfl rfl ?_; intro w3 nb m; have st_ := Lib.hid (ST.out.set1 nb m); clear ST nb m; have ST := st_)
      | ((with_reducible refine Step.gate_store (t := 41) rfl ?_); refine Step.storeAll ST.out.one rfl rfl rfl rfl rfl size_inst rfl rfl ?_; intro w3 nb m; have st_ := Lib.hid (ST.out.set1 nb m); clear ST nb m; have ST := st_)
      | ((with_reducible refine Step.gate_load (t := 3) rfl ?_); refine Step.load ST.out.one rfl rfl rfl pl_int rfl ?_)
      | ((with_reducible refine Step.gate_load (t := 4) rfl ?_); refine Step.load ST.out.one rfl rfl rfl pl_bool rfl ?_)
      | ((with_reducible refine Step.gate_load (t := 41) rfl ?_); refine Step.loadAll ST.out.one rfl rfl rfl Try.underlying41 rfl size_inst ?_)
      | ((with_reducible refine Step.gate_store (t := 3) rfl ?_); refine Step.store ST.out.two rfl rfl rfl rfl rfl pl_int rfl rfl ?_; intro w3 nb m; have st_ := Lib.hid (ST.out.set2 nb m); clear ST nb m; have ST := st_)
      | ((with_reducible refine Step.gate_store (t := 4) rfl ?_); refine Step.store ST.out.two rfl rfl rfl rfl rfl pl_bool rfl rfl ?_; intro w3 nb m; have st_ := Lib.hid (ST.out.set2 nb m); clear ST nb m; have ST := st_)
      | ((with_reducible refine Step.gate_store (t := 41) rfl ?_); refine Step.storeAll ST.out.two rfl rfl rfl rfl rfl size_inst rfl rfl ?_; intro w3 nb m; have st_ := Lib.hid (ST.out.set2 nb m); clear ST nb m; have ST := st_)
      | ((with_reducible refine Step.gate_load (t := 3) rfl ?_); refine Step.load ST.out.two rfl rfl rfl pl_int rfl ?_)
      | ((with_reducible refine Step.gate_load (t := 4) rfl ?_); refine Step.load ST.out.two rfl rfl rfl pl_bool rfl ?_)
      | ((with_reducible refine Step.gate_load (t := 41) rfl ?_); refine Step.loadAll ST.out.two rfl rfl rfl Try.underlying41 rfl size_inst ?_))
    refine bodyPost_ret (results_row_tmp rfl _ _ g1 _ _ _ rfl ST.out.one Try.underlying41 rfl size_inst) rfl ⟨rfl, ST.out.below⟩
  rw [if_neg h3]
  by_cases h1 : f = 1
  · rw [if_pos h1]
    clear bf
    go_enter Try.func38, Try.ntmps38
    go_wp2_with (first
      | (go_at_call 36; (with_reducible refine (T0.out _).mono ?_); rintro e w' ⟨rfl, hb⟩; (try (have pb_ := Lib.hid (PB.out.below hb); clear PB; have PB := pb_)); have st_ := Lib.hid (ST.out.call hb); clear ST hb; have ST := st_)
      | (go_at_call 40; (with_reducible refine (T1.out _).mono ?_); rintro e w' ⟨rfl, hb⟩; (try (have pb_ := Lib.hid (PB.out.below hb); clear PB; have PB := pb_)); have st_ := Lib.hid (ST.out.call hb); clear ST hb; have ST := st_)
      | (go_at_call 41; (with_reducible refine (T2.out _).mono ?_); rintro e w' ⟨rfl, hb⟩; (try (have pb_ := Lib.hid (PB.out.below hb); clear PB; have PB := pb_)); have st_ := Lib.hid (ST.out.call hb); clear ST hb; have ST := st_)
      | (go_at_call 42; (with_reducible refine (T3.out _).mono ?_); rintro e w' ⟨rfl, hb⟩; (try (have pb_ := Lib.hid (PB.out.below hb); clear PB; have PB := pb_)); have st_ := Lib.hid (ST.out.call hb); clear ST hb; have ST := st_)
      | (go_at_call 46; (with_reducible refine (T4.out _).mono ?_); rintro e w' ⟨rfl, hb⟩; (try (have pb_ := Lib.hid (PB.out.below hb); clear PB; have PB := pb_)); have st_ := Lib.hid (ST.out.call hb); clear ST hb; have ST := st_)
      | ((with_reducible refine Step.gate_alloc (t := 41) rfl ?_); refine Step.freshAlloc rfl rfl (alloc_agg zero_inst) ?_; intro g2 w2 b hg hb; have st_ := Lib.hid (ST.out.more b hg hb); clear ST b hg hb; have ST := st_)
      | ((with_reducible refine Step.gate_alloc (t := 41) rfl ?_); refine Step.freshAlloc rfl rfl (alloc_agg zero_inst) ?_; intro g1 w1 b hg hb; have ST := Lib.hid (S1.made b hg hb); clear b hg hb)
      | ((with_reducible refine Calm.region_alloc (id := 1) (fin := ?fin_17) ?hm_17 11 10 4 ?o1_17 (.cells #[.int .i64 0, .int .i64 0, .int .i64 0, .int .i64 0, .int .i64 0, .int .i64 0, .int .i64 0, .bool false] 41 (0, 0)) [(6, .int .u32 a), (7, .int .i64 2), (8, .int .i64 4), (9, .int .u32 a), (10, .int .i64 rd), (11, .int .u32 a), (12, .int .i64 rs1), (13, .int .u32 a), (14, .int .i64 rs2), (15, .agg #[.int .i64 0, .int .i64 0, .int .i64 rd, .int .i64 rs1, .int .i64 rs2, .int .i64 0, .int .i64 4, .bool false])] ?hp_17 ?hin_17 ?hsolo_17 ?hoa_17 (by decide) ?hda_17 ?hga_17 ?hrun_17 ?hfin_17 ?hcalm_17 ?_); (case hm_17 => rfl); (case hoa_17 => rfl); (case hp_17 => kernel_rfl); (case hin_17 => kernel_rfl); (case hsolo_17 => kernel_rfl); (case hda_17 => rfl); (case hga_17 => rfl); (case hrun_17 => exact alloc_run rfl zero_inst); (case hfin_17 => (simp only [Reg.puts, Act.put, List.setIfInBounds_toArray, List.set_cons_zero, List.set_cons_succ]; try rfl)); (case hcalm_17 => (simp only [List.take, List.eraseIdx]; (repeat' (first | exact Calm.calm_nil | refine Calm.calm_cons ?_ ?_)); all_goals (first | exact calm_callg rfl rfl (fun X => by go_simp) (fun X => T0.out X) rfl | exact calm_callg rfl rfl (fun X => by go_simp) (fun X => T1.out X) rfl | exact calm_callg rfl rfl (fun X => by go_simp) (fun X => T2.out X) rfl | exact calm_callg rfl rfl (fun X => by go_simp) (fun X => T3.out X) rfl | exact calm_slot rfl rfl (fun X => by first | (go_simp; done) | (go_simp; rfl))))); intro g2 w1 hg hlt hb ho; have st_ := Lib.hid (ST.out.more ⟨ho⟩ hg hb); clear ST; have ST := st_; clear hg hlt hb ho; simp only [List.drop, Calm.ptr, Act.put, List.setIfInBounds_toArray, List.set_cons_zero, List.set_cons_succ])
      | (go_at_call 45; (with_reducible refine (T5.out _).mono ?_); rintro e w' ⟨rfl, hb⟩; (try (have pb_ := Lib.hid (PB.out.below hb); clear PB; have PB := pb_)); have st_ := Lib.hid (ST.out.call hb); clear ST hb; have ST := st_)
      | ((with_reducible refine Step.gate_store (t := 3) rfl ?_); refine Step.store ST.out.one rfl rfl rfl rfl rfl pl_int rfl rfl ?_; intro w3 nb m; have st_ := Lib.hid (ST.out.set1 nb m); clear ST nb m; have ST := st_)
      | ((with_reducible refine Step.gate_store (t := 4) rfl ?_); refine Step.store ST.out.one rfl rfl rfl rfl rfl pl_bool rfl rfl ?_; intro w3 nb m; have st_ := Lib.hid (ST.out.set1 nb m); clear ST nb m; have ST := st_)
      | ((with_reducible refine Step.gate_store (t := 41) rfl ?_); refine Step.storeAll ST.out.one rfl rfl rfl rfl rfl size_inst rfl rfl ?_; intro w3 nb m; have st_ := Lib.hid (ST.out.set1 nb m); clear ST nb m; have ST := st_)
      | ((with_reducible refine Step.gate_load (t := 3) rfl ?_); refine Step.load ST.out.one rfl rfl rfl pl_int rfl ?_)
      | ((with_reducible refine Step.gate_load (t := 4) rfl ?_); refine Step.load ST.out.one rfl rfl rfl pl_bool rfl ?_)
      | ((with_reducible refine Step.gate_load (t := 41) rfl ?_); refine Step.loadAll ST.out.one rfl rfl rfl Try.underlying41 rfl size_inst ?_)
      | ((with_reducible refine Step.gate_store (t := 3) rfl ?_); refine Step.store ST.out.two rfl rfl rfl rfl rfl pl_int rfl rfl ?_; intro w3 nb m; have st_ := Lib.hid (ST.out.set2 nb m); clear ST nb m; have ST := st_)
      | ((with_reducible refine Step.gate_store (t := 4) rfl ?_); refine Step.store ST.out.two rfl rfl rfl rfl rfl pl_bool rfl rfl ?_; intro w3 nb m; have st_ := Lib.hid (ST.out.set2 nb m); clear ST nb m; have ST := st_)
      | ((with_reducible refine Step.gate_store (t := 41) rfl ?_); refine Step.storeAll ST.out.two rfl rfl rfl rfl rfl size_inst rfl rfl ?_; intro w3 nb m; have st_ := Lib.hid (ST.out.set2 nb m); clear ST nb m; have ST := st_)
      | ((with_reducible refine Step.gate_load (t := 3) rfl ?_); refine Step.load ST.out.two rfl rfl rfl pl_int rfl ?_)
      | ((with_reducible refine Step.gate_load (t := 4) rfl ?_); refine Step.load ST.out.two rfl rfl rfl pl_bool rfl ?_)
      | ((with_reducible refine Step.gate_load (t := 41) rfl ?_); refine Step.loadAll ST.out.two rfl rfl rfl Try.underlying41 rfl size_inst ?_))
    refine bodyPost_ret (results_row_tmp rfl _ _ g1 _ _ _ rfl ST.out.one Try.underlying41 rfl size_inst) rfl ⟨rfl, ST.out.below⟩
  rw [if_neg h1]
  have hm : bits .and .i64 f 3 = f % 4 := i64_mask 2 ⟨bf.1, by omega⟩ (by decide)
  by_cases h4 : f % 4 = 0
  · rw [if_pos h4]
    have hm' : bits .and .i64 f 3 = 0 := hm.trans h4
    have hq : f.tdiv 4 = f / 4 := Int.tdiv_eq_ediv_of_nonneg bf.1
    have HX := Lib.hid (show -9223372036854775808 ≤ f / 4 ∧ f / 4 < 9223372036854775808 by omega)
    have hw : wrap64 (f / 4) = f / 4 := by unfold wrap64; omega
    generalize f / 4 = q at *
    clear hm bf h4
    go_enter Try.func38, Try.ntmps38
    go_wp2_with (first
      | (go_at_call 36; (with_reducible refine (T0.out _).mono ?_); rintro e w' ⟨rfl, hb⟩; (try (have pb_ := Lib.hid (PB.out.below hb); clear PB; have PB := pb_)); have st_ := Lib.hid (ST.out.call hb); clear ST hb; have ST := st_)
      | (go_at_call 40; (with_reducible refine (T1.out _).mono ?_); rintro e w' ⟨rfl, hb⟩; (try (have pb_ := Lib.hid (PB.out.below hb); clear PB; have PB := pb_)); have st_ := Lib.hid (ST.out.call hb); clear ST hb; have ST := st_)
      | (go_at_call 41; (with_reducible refine (T2.out _).mono ?_); rintro e w' ⟨rfl, hb⟩; (try (have pb_ := Lib.hid (PB.out.below hb); clear PB; have PB := pb_)); have st_ := Lib.hid (ST.out.call hb); clear ST hb; have ST := st_)
      | (go_at_call 42; (with_reducible refine (T3.out _).mono ?_); rintro e w' ⟨rfl, hb⟩; (try (have pb_ := Lib.hid (PB.out.below hb); clear PB; have PB := pb_)); have st_ := Lib.hid (ST.out.call hb); clear ST hb; have ST := st_)
      | (go_at_call 46; (with_reducible refine (T4.out _).mono ?_); rintro e w' ⟨rfl, hb⟩; (try (have pb_ := Lib.hid (PB.out.below hb); clear PB; have PB := pb_)); have st_ := Lib.hid (ST.out.call hb); clear ST hb; have ST := st_)
      | ((with_reducible refine Step.gate_alloc (t := 41) rfl ?_); refine Step.freshAlloc rfl rfl (alloc_agg zero_inst) ?_; intro g2 w2 b hg hb; have st_ := Lib.hid (ST.out.more b hg hb); clear ST b hg hb; have ST := st_)
      | ((with_reducible refine Step.gate_alloc (t := 41) rfl ?_); refine Step.freshAlloc rfl rfl (alloc_agg zero_inst) ?_; intro g1 w1 b hg hb; have ST := Lib.hid (S1.made b hg hb); clear b hg hb)
      | ((with_reducible refine Calm.region_alloc (id := 1) (fin := ?fin_18) ?hm_18 11 10 4 ?o1_18 (.cells #[.int .i64 0, .int .i64 0, .int .i64 0, .int .i64 0, .int .i64 0, .int .i64 0, .int .i64 0, .bool false] 41 (0, 0)) [(6, .int .u32 a), (7, .int .i64 2), (8, .int .i64 4), (9, .int .u32 a), (10, .int .i64 rd), (11, .int .u32 a), (12, .int .i64 rs1), (13, .int .u32 a), (14, .int .i64 rs2), (15, .agg #[.int .i64 0, .int .i64 0, .int .i64 rd, .int .i64 rs1, .int .i64 rs2, .int .i64 0, .int .i64 4, .bool false])] ?hp_18 ?hin_18 ?hsolo_18 ?hoa_18 (by decide) ?hda_18 ?hga_18 ?hrun_18 ?hfin_18 ?hcalm_18 ?_); (case hm_18 => rfl); (case hoa_18 => rfl); (case hp_18 => kernel_rfl); (case hin_18 => kernel_rfl); (case hsolo_18 => kernel_rfl); (case hda_18 => rfl); (case hga_18 => rfl); (case hrun_18 => exact alloc_run rfl zero_inst); (case hfin_18 => (simp only [Reg.puts, Act.put, List.setIfInBounds_toArray, List.set_cons_zero, List.set_cons_succ]; try rfl)); (case hcalm_18 => (simp only [List.take, List.eraseIdx]; (repeat' (first | exact Calm.calm_nil | refine Calm.calm_cons ?_ ?_)); all_goals (first | exact calm_callg rfl rfl (fun X => by go_simp) (fun X => T0.out X) rfl | exact calm_callg rfl rfl (fun X => by go_simp) (fun X => T1.out X) rfl | exact calm_callg rfl rfl (fun X => by go_simp) (fun X => T2.out X) rfl | exact calm_callg rfl rfl (fun X => by go_simp) (fun X => T3.out X) rfl | exact calm_slot rfl rfl (fun X => by first | (go_simp; done) | (go_simp; rfl))))); intro g2 w1 hg hlt hb ho; have st_ := Lib.hid (ST.out.more ⟨ho⟩ hg hb); clear ST; have ST := st_; clear hg hlt hb ho; simp only [List.drop, Calm.ptr, Act.put, List.setIfInBounds_toArray, List.set_cons_zero, List.set_cons_succ])
      | (go_at_call 45; (with_reducible refine (T5.out _).mono ?_); rintro e w' ⟨rfl, hb⟩; (try (have pb_ := Lib.hid (PB.out.below hb); clear PB; have PB := pb_)); have st_ := Lib.hid (ST.out.call hb); clear ST hb; have ST := st_)
      | ((with_reducible refine Step.gate_build (t := 57) rfl ?_); refine Step.freshSlice (cs := #[.int .i64 2, .int .i64 3, .int .i64 5, .int .i64 4, .int .i64 6, .int .i64 7, .int .i64 8, .int .i64 9]) (T := 3) (n := 8) (m := 8) rfl ?hr ?_; (case hr => first | (go_simp; done) | (go_simp; rfl)); intro g9 w1 b hg hb; have PB := Lib.hid (show Blk w1 g9 (Enc.ints ([2, 3, 5, 4, 6, 7, 8, 9] : List Int)) _ from b); have st_ := Lib.hid (ST.out.call hb); clear ST b hb hg; have ST := st_)
      | (go_at_call 47; have pk_ := pick_any (n := 8) PB.out ([2, 3, 5, 4, 6, 7, 8, 9] : List Int) rfl rfl (by decide) q HX.out; (with_reducible refine pk_.mono ?_); clear pk_; rintro e w' ⟨rfl, hb⟩; clear PB; have st_ := Lib.hid (ST.out.call hb); clear ST hb; have ST := st_)
      | ((with_reducible refine Step.gate_store (t := 3) rfl ?_); refine Step.store ST.out.one rfl rfl rfl rfl rfl pl_int rfl rfl ?_; intro w3 nb m; have st_ := Lib.hid (ST.out.set1 nb m); clear ST nb m; have ST := st_)
      | ((with_reducible refine Step.gate_store (t := 4) rfl ?_); refine Step.store ST.out.one rfl rfl rfl rfl rfl pl_bool rfl rfl ?_; intro w3 nb m; have st_ := Lib.hid (ST.out.set1 nb m); clear ST nb m; have ST := st_)
      | ((with_reducible refine Step.gate_store (t := 41) rfl ?_); refine Step.storeAll ST.out.one rfl rfl rfl rfl rfl size_inst rfl rfl ?_; intro w3 nb m; have st_ := Lib.hid (ST.out.set1 nb m); clear ST nb m; have ST := st_)
      | ((with_reducible refine Step.gate_load (t := 3) rfl ?_); refine Step.load ST.out.one rfl rfl rfl pl_int rfl ?_)
      | ((with_reducible refine Step.gate_load (t := 4) rfl ?_); refine Step.load ST.out.one rfl rfl rfl pl_bool rfl ?_)
      | ((with_reducible refine Step.gate_load (t := 41) rfl ?_); refine Step.loadAll ST.out.one rfl rfl rfl Try.underlying41 rfl size_inst ?_)
      | ((with_reducible refine Step.gate_store (t := 3) rfl ?_); refine Step.store ST.out.two rfl rfl rfl rfl rfl pl_int rfl rfl ?_; intro w3 nb m; have st_ := Lib.hid (ST.out.set2 nb m); clear ST nb m; have ST := st_)
      | ((with_reducible refine Step.gate_store (t := 4) rfl ?_); refine Step.store ST.out.two rfl rfl rfl rfl rfl pl_bool rfl rfl ?_; intro w3 nb m; have st_ := Lib.hid (ST.out.set2 nb m); clear ST nb m; have ST := st_)
      | ((with_reducible refine Step.gate_store (t := 41) rfl ?_); refine Step.storeAll ST.out.two rfl rfl rfl rfl rfl size_inst rfl rfl ?_; intro w3 nb m; have st_ := Lib.hid (ST.out.set2 nb m); clear ST nb m; have ST := st_)
      | ((with_reducible refine Step.gate_load (t := 3) rfl ?_); refine Step.load ST.out.two rfl rfl rfl pl_int rfl ?_)
      | ((with_reducible refine Step.gate_load (t := 4) rfl ?_); refine Step.load ST.out.two rfl rfl rfl pl_bool rfl ?_)
      | ((with_reducible refine Step.gate_load (t := 41) rfl ?_); refine Step.loadAll ST.out.two rfl rfl rfl Try.underlying41 rfl size_inst ?_))
    refine bodyPost_ret (results_row_tmp rfl _ _ g1 _ _ _ rfl ST.out.one Try.underlying41 rfl size_inst) rfl ⟨rfl, ST.out.below⟩
  · rw [if_neg h4]
    have hm' : (bits .and .i64 f 3 != 0) = true := by rw [hm]; exact bne_iff_ne.2 h4
    clear hm bf
    go_enter Try.func38, Try.ntmps38
    go_wp2_with (first
      | (go_at_call 36; (with_reducible refine (T0.out _).mono ?_); rintro e w' ⟨rfl, hb⟩; (try (have pb_ := Lib.hid (PB.out.below hb); clear PB; have PB := pb_)); have st_ := Lib.hid (ST.out.call hb); clear ST hb; have ST := st_)
      | (go_at_call 40; (with_reducible refine (T1.out _).mono ?_); rintro e w' ⟨rfl, hb⟩; (try (have pb_ := Lib.hid (PB.out.below hb); clear PB; have PB := pb_)); have st_ := Lib.hid (ST.out.call hb); clear ST hb; have ST := st_)
      | (go_at_call 41; (with_reducible refine (T2.out _).mono ?_); rintro e w' ⟨rfl, hb⟩; (try (have pb_ := Lib.hid (PB.out.below hb); clear PB; have PB := pb_)); have st_ := Lib.hid (ST.out.call hb); clear ST hb; have ST := st_)
      | (go_at_call 42; (with_reducible refine (T3.out _).mono ?_); rintro e w' ⟨rfl, hb⟩; (try (have pb_ := Lib.hid (PB.out.below hb); clear PB; have PB := pb_)); have st_ := Lib.hid (ST.out.call hb); clear ST hb; have ST := st_)
      | (go_at_call 46; (with_reducible refine (T4.out _).mono ?_); rintro e w' ⟨rfl, hb⟩; (try (have pb_ := Lib.hid (PB.out.below hb); clear PB; have PB := pb_)); have st_ := Lib.hid (ST.out.call hb); clear ST hb; have ST := st_)
      | ((with_reducible refine Step.gate_alloc (t := 41) rfl ?_); refine Step.freshAlloc rfl rfl (alloc_agg zero_inst) ?_; intro g2 w2 b hg hb; have st_ := Lib.hid (ST.out.more b hg hb); clear ST b hg hb; have ST := st_)
      | ((with_reducible refine Step.gate_alloc (t := 41) rfl ?_); refine Step.freshAlloc rfl rfl (alloc_agg zero_inst) ?_; intro g1 w1 b hg hb; have ST := Lib.hid (S1.made b hg hb); clear b hg hb)
      | ((with_reducible refine Calm.region_alloc (id := 1) (fin := ?fin_19) ?hm_19 11 10 4 ?o1_19 (.cells #[.int .i64 0, .int .i64 0, .int .i64 0, .int .i64 0, .int .i64 0, .int .i64 0, .int .i64 0, .bool false] 41 (0, 0)) [(6, .int .u32 a), (7, .int .i64 2), (8, .int .i64 4), (9, .int .u32 a), (10, .int .i64 rd), (11, .int .u32 a), (12, .int .i64 rs1), (13, .int .u32 a), (14, .int .i64 rs2), (15, .agg #[.int .i64 0, .int .i64 0, .int .i64 rd, .int .i64 rs1, .int .i64 rs2, .int .i64 0, .int .i64 4, .bool false])] ?hp_19 ?hin_19 ?hsolo_19 ?hoa_19 (by decide) ?hda_19 ?hga_19 ?hrun_19 ?hfin_19 ?hcalm_19 ?_); (case hm_19 => rfl); (case hoa_19 => rfl); (case hp_19 => kernel_rfl); (case hin_19 => kernel_rfl); (case hsolo_19 => kernel_rfl); (case hda_19 => rfl); (case hga_19 => rfl); (case hrun_19 => exact alloc_run rfl zero_inst); (case hfin_19 => (simp only [Reg.puts, Act.put, List.setIfInBounds_toArray, List.set_cons_zero, List.set_cons_succ]; try rfl)); (case hcalm_19 => (simp only [List.take, List.eraseIdx]; (repeat' (first | exact Calm.calm_nil | refine Calm.calm_cons ?_ ?_)); all_goals (first | exact calm_callg rfl rfl (fun X => by go_simp) (fun X => T0.out X) rfl | exact calm_callg rfl rfl (fun X => by go_simp) (fun X => T1.out X) rfl | exact calm_callg rfl rfl (fun X => by go_simp) (fun X => T2.out X) rfl | exact calm_callg rfl rfl (fun X => by go_simp) (fun X => T3.out X) rfl | exact calm_slot rfl rfl (fun X => by first | (go_simp; done) | (go_simp; rfl))))); intro g2 w1 hg hlt hb ho; have st_ := Lib.hid (ST.out.more ⟨ho⟩ hg hb); clear ST; have ST := st_; clear hg hlt hb ho; simp only [List.drop, Calm.ptr, Act.put, List.setIfInBounds_toArray, List.set_cons_zero, List.set_cons_succ])
      | (go_at_call 45; (with_reducible refine (T5.out _).mono ?_); rintro e w' ⟨rfl, hb⟩; (try (have pb_ := Lib.hid (PB.out.below hb); clear PB; have PB := pb_)); have st_ := Lib.hid (ST.out.call hb); clear ST hb; have ST := st_)
      | ((with_reducible refine Step.gate_store (t := 3) rfl ?_); refine Step.store ST.out.one rfl rfl rfl rfl rfl pl_int rfl rfl ?_; intro w3 nb m; have st_ := Lib.hid (ST.out.set1 nb m); clear ST nb m; have ST := st_)
      | ((with_reducible refine Step.gate_store (t := 4) rfl ?_); refine Step.store ST.out.one rfl rfl rfl rfl rfl pl_bool rfl rfl ?_; intro w3 nb m; have st_ := Lib.hid (ST.out.set1 nb m); clear ST nb m; have ST := st_)
      | ((with_reducible refine Step.gate_store (t := 41) rfl ?_); refine Step.storeAll ST.out.one rfl rfl rfl rfl rfl size_inst rfl rfl ?_; intro w3 nb m; have st_ := Lib.hid (ST.out.set1 nb m); clear ST nb m; have ST := st_)
      | ((with_reducible refine Step.gate_load (t := 3) rfl ?_); refine Step.load ST.out.one rfl rfl rfl pl_int rfl ?_)
      | ((with_reducible refine Step.gate_load (t := 4) rfl ?_); refine Step.load ST.out.one rfl rfl rfl pl_bool rfl ?_)
      | ((with_reducible refine Step.gate_load (t := 41) rfl ?_); refine Step.loadAll ST.out.one rfl rfl rfl Try.underlying41 rfl size_inst ?_)
      | ((with_reducible refine Step.gate_store (t := 3) rfl ?_); refine Step.store ST.out.two rfl rfl rfl rfl rfl pl_int rfl rfl ?_; intro w3 nb m; have st_ := Lib.hid (ST.out.set2 nb m); clear ST nb m; have ST := st_)
      | ((with_reducible refine Step.gate_store (t := 4) rfl ?_); refine Step.store ST.out.two rfl rfl rfl rfl rfl pl_bool rfl rfl ?_; intro w3 nb m; have st_ := Lib.hid (ST.out.set2 nb m); clear ST nb m; have ST := st_)
      | ((with_reducible refine Step.gate_store (t := 41) rfl ?_); refine Step.storeAll ST.out.two rfl rfl rfl rfl rfl size_inst rfl rfl ?_; intro w3 nb m; have st_ := Lib.hid (ST.out.set2 nb m); clear ST nb m; have ST := st_)
      | ((with_reducible refine Step.gate_load (t := 3) rfl ?_); refine Step.load ST.out.two rfl rfl rfl pl_int rfl ?_)
      | ((with_reducible refine Step.gate_load (t := 4) rfl ?_); refine Step.load ST.out.two rfl rfl rfl pl_bool rfl ?_)
      | ((with_reducible refine Step.gate_load (t := 41) rfl ?_); refine Step.loadAll ST.out.two rfl rfl rfl Try.underlying41 rfl size_inst ?_))
    refine bodyPost_ret (results_row_tmp rfl _ _ g1 _ _ _ rfl ST.out.one Try.underlying41 rfl size_inst) rfl ⟨rfl, ST.out.below⟩
set_option maxHeartbeats 2000000 in
theorem atomic_3 (a : Int) (ha : W32 a) (h : fd a 14 12 = 3) (w : World) : Calls Try.prog 38 #[.int .u32 a] w fun e w' => e = .returned (.tuple #[.agg #[.int .i64 ((atF (fd a 31 27) (fd a 24 20)).1), .int .i64 ((atF (fd a 31 27) (fd a 24 20)).2.1), .int .i64 (fd a 11 7), .int .i64 (fd a 19 15), .int .i64 (fd a 24 20), .int .i64 0, .int .i64 8, .bool false], .bool (atF (fd a 31 27) (fd a 24 20)).2.2]) ∧ Below w.heap.size w w' := by
  have T0 := Lib.hid (fun w => calls_below (f3_any a ha w))
  have T1 := Lib.hid (fun w => calls_below (rd_any a ha w))
  have T2 := Lib.hid (fun w => calls_below (rs1_any a ha w))
  have T3 := Lib.hid (fun w => calls_below (rs2_any a ha w))
  have T4 := Lib.hid (fun w => calls_below (f7_any a ha w))
  have T5 := Lib.hid (fun w => calls_below (bits_any a 31 27 31 27 ha rfl rfl (by decide) (by decide) w))
  have bf := fd_lit (a := a) (h := 31) (l := 27) (n := 32) rfl
  rw [h] at T0
  clear h
  generalize fd a 11 7 = rd at *
  generalize fd a 19 15 = rs1 at *
  generalize fd a 24 20 = rs2 at *
  generalize fd a 31 25 = s at *
  generalize fd a 31 27 = f at *
  unfold atF
  by_cases h2 : f = 2
  · rw [if_pos h2]
    clear bf
    go_enter Try.func38, Try.ntmps38
    go_wp2_with (first
      | (go_at_call 36; (with_reducible refine (T0.out _).mono ?_); rintro e w' ⟨rfl, hb⟩; (try (have pb_ := Lib.hid (PB.out.below hb); clear PB; have PB := pb_)); have st_ := Lib.hid (ST.out.call hb); clear ST hb; have ST := st_)
      | (go_at_call 40; (with_reducible refine (T1.out _).mono ?_); rintro e w' ⟨rfl, hb⟩; (try (have pb_ := Lib.hid (PB.out.below hb); clear PB; have PB := pb_)); have st_ := Lib.hid (ST.out.call hb); clear ST hb; have ST := st_)
      | (go_at_call 41; (with_reducible refine (T2.out _).mono ?_); rintro e w' ⟨rfl, hb⟩; (try (have pb_ := Lib.hid (PB.out.below hb); clear PB; have PB := pb_)); have st_ := Lib.hid (ST.out.call hb); clear ST hb; have ST := st_)
      | (go_at_call 42; (with_reducible refine (T3.out _).mono ?_); rintro e w' ⟨rfl, hb⟩; (try (have pb_ := Lib.hid (PB.out.below hb); clear PB; have PB := pb_)); have st_ := Lib.hid (ST.out.call hb); clear ST hb; have ST := st_)
      | (go_at_call 46; (with_reducible refine (T4.out _).mono ?_); rintro e w' ⟨rfl, hb⟩; (try (have pb_ := Lib.hid (PB.out.below hb); clear PB; have PB := pb_)); have st_ := Lib.hid (ST.out.call hb); clear ST hb; have ST := st_)
      | ((with_reducible refine Step.gate_alloc (t := 41) rfl ?_); refine Step.freshAlloc rfl rfl (alloc_agg zero_inst) ?_; intro g2 w2 b hg hb; have st_ := Lib.hid (ST.out.more b hg hb); clear ST b hg hb; have ST := st_)
      | ((with_reducible refine Step.gate_alloc (t := 41) rfl ?_); refine Step.freshAlloc rfl rfl (alloc_agg zero_inst) ?_; intro g1 w1 b hg hb; have ST := Lib.hid (S1.made b hg hb); clear b hg hb)
      | ((with_reducible refine Calm.region_alloc (id := 1) (fin := ?fin_21) ?hm_21 11 10 4 ?o1_21 (.cells #[.int .i64 0, .int .i64 0, .int .i64 0, .int .i64 0, .int .i64 0, .int .i64 0, .int .i64 0, .bool false] 41 (0, 0)) [(6, .int .u32 a), (7, .int .i64 3), (8, .int .i64 8), (9, .int .u32 a), (10, .int .i64 rd), (11, .int .u32 a), (12, .int .i64 rs1), (13, .int .u32 a), (14, .int .i64 rs2), (15, .agg #[.int .i64 0, .int .i64 0, .int .i64 rd, .int .i64 rs1, .int .i64 rs2, .int .i64 0, .int .i64 8, .bool false])] ?hp_21 ?hin_21 ?hsolo_21 ?hoa_21 (by decide) ?hda_21 ?hga_21 ?hrun_21 ?hfin_21 ?hcalm_21 ?_); (case hm_21 => rfl); (case hoa_21 => rfl); (case hp_21 => kernel_rfl); (case hin_21 => kernel_rfl); (case hsolo_21 => kernel_rfl); (case hda_21 => rfl); (case hga_21 => rfl); (case hrun_21 => exact alloc_run rfl zero_inst); (case hfin_21 => (simp only [Reg.puts, Act.put, List.setIfInBounds_toArray, List.set_cons_zero, List.set_cons_succ]; try rfl)); (case hcalm_21 => (simp only [List.take, List.eraseIdx]; (repeat' (first | exact Calm.calm_nil | refine Calm.calm_cons ?_ ?_)); all_goals (first | exact calm_callg rfl rfl (fun X => by go_simp) (fun X => T0.out X) rfl | exact calm_callg rfl rfl (fun X => by go_simp) (fun X => T1.out X) rfl | exact calm_callg rfl rfl (fun X => by go_simp) (fun X => T2.out X) rfl | exact calm_callg rfl rfl (fun X => by go_simp) (fun X => T3.out X) rfl | exact calm_slot rfl rfl (fun X => by first | (go_simp; done) | (go_simp; rfl))))); intro g2 w1 hg hlt hb ho; have st_ := Lib.hid (ST.out.more ⟨ho⟩ hg hb); clear ST; have ST := st_; clear hg hlt hb ho; simp only [List.drop, Calm.ptr, Act.put, List.setIfInBounds_toArray, List.set_cons_zero, List.set_cons_succ])
      | (go_at_call 45; (with_reducible refine (T5.out _).mono ?_); rintro e w' ⟨rfl, hb⟩; (try (have pb_ := Lib.hid (PB.out.below hb); clear PB; have PB := pb_)); have st_ := Lib.hid (ST.out.call hb); clear ST hb; have ST := st_)
      | ((with_reducible refine two_region (id := 12) (fin := ?fin_20) (ok := ?ok_20) (k := 4) (dn := #[.int .i64 15, .int .i64 0, .int .i64 rd, .int .i64 rs1, .int .i64 rs2, .int .i64 0, .int .i64 8, .bool false]) ST.out.swap ?hm_20 [(41, .agg #[.int .i64 15, .int .i64 0, .int .i64 rd, .int .i64 rs1, .int .i64 rs2, .int .i64 0, .int .i64 8, .bool false]), (42, .int .u32 a), (43, .int .i64 rs2), (44, .bool (rs2 == 0)), (3, .bool (rs2 == 0))] rfl ?hord_20 ?hin_20 ?hfin_20 ?hk_20 ?hset_20 ?hdo_20 ?_); (case hm_20 => rfl); (case hord_20 => kernel_rfl); (case hin_20 => kernel_rfl); (case hfin_20 => (simp only [Reg.puts, Act.put, List.setIfInBounds_toArray, List.set_cons_zero, List.set_cons_succ]; try rfl)); (case hk_20 => rfl); (case hset_20 => exact sets_all rfl rfl rfl rfl rfl size_inst rfl); (case hdo_20 => ((repeat' (first | exact stays_nil | refine stays_cons ?_ ?_)); all_goals (first | exact stays_loadAll rfl rfl rfl Try.underlying41 rfl size_inst rfl | exact stays_load rfl rfl rfl pl_int rfl rfl | exact stays_load rfl rfl rfl pl_bool rfl rfl | exact stays_call rfl rfl (fun X => by go_simp) (fun X => T3.out X) rfl | (exact stays_slot rfl rfl (fun X => by first | (go_simp; done) | (go_simp; rfl)))))); intro w' st_; clear ST; have ST := Lib.hid (S2.swap st_); clear st_)
      | ((with_reducible refine Step.gate_store (t := 3) rfl ?_); refine Step.store ST.out.one rfl rfl rfl rfl rfl pl_int rfl rfl ?_; intro w3 nb m; have st_ := Lib.hid (ST.out.set1 nb m); clear ST nb m; have ST := st_)
      | ((with_reducible refine Step.gate_store (t := 4) rfl ?_); refine Step.store ST.out.one rfl rfl rfl rfl rfl pl_bool rfl rfl ?_; intro w3 nb m; have st_ := Lib.hid (ST.out.set1 nb m); clear ST nb m; have ST := st_)
      | ((with_reducible refine Step.gate_store (t := 41) rfl ?_); refine Step.storeAll ST.out.one rfl rfl rfl rfl rfl size_inst rfl rfl ?_; intro w3 nb m; have st_ := Lib.hid (ST.out.set1 nb m); clear ST nb m; have ST := st_)
      | ((with_reducible refine Step.gate_load (t := 3) rfl ?_); refine Step.load ST.out.one rfl rfl rfl pl_int rfl ?_)
      | ((with_reducible refine Step.gate_load (t := 4) rfl ?_); refine Step.load ST.out.one rfl rfl rfl pl_bool rfl ?_)
      | ((with_reducible refine Step.gate_load (t := 41) rfl ?_); refine Step.loadAll ST.out.one rfl rfl rfl Try.underlying41 rfl size_inst ?_)
      | ((with_reducible refine Step.gate_store (t := 3) rfl ?_); refine Step.store ST.out.two rfl rfl rfl rfl rfl pl_int rfl rfl ?_; intro w3 nb m; have st_ := Lib.hid (ST.out.set2 nb m); clear ST nb m; have ST := st_)
      | ((with_reducible refine Step.gate_store (t := 4) rfl ?_); refine Step.store ST.out.two rfl rfl rfl rfl rfl pl_bool rfl rfl ?_; intro w3 nb m; have st_ := Lib.hid (ST.out.set2 nb m); clear ST nb m; have ST := st_)
      | ((with_reducible refine Step.gate_store (t := 41) rfl ?_); refine Step.storeAll ST.out.two rfl rfl rfl rfl rfl size_inst rfl rfl ?_; intro w3 nb m; have st_ := Lib.hid (ST.out.set2 nb m); clear ST nb m; have ST := st_)
      | ((with_reducible refine Step.gate_load (t := 3) rfl ?_); refine Step.load ST.out.two rfl rfl rfl pl_int rfl ?_)
      | ((with_reducible refine Step.gate_load (t := 4) rfl ?_); refine Step.load ST.out.two rfl rfl rfl pl_bool rfl ?_)
      | ((with_reducible refine Step.gate_load (t := 41) rfl ?_); refine Step.loadAll ST.out.two rfl rfl rfl Try.underlying41 rfl size_inst ?_))
    refine bodyPost_ret (results_row_tmp rfl _ _ g1 _ _ _ rfl ST.out.one Try.underlying41 rfl size_inst) rfl ⟨rfl, ST.out.below⟩
  rw [if_neg h2]
  by_cases h3 : f = 3
  · rw [if_pos h3]
    clear bf
    go_enter Try.func38, Try.ntmps38
    go_wp2_with (first
      | (go_at_call 36; (with_reducible refine (T0.out _).mono ?_); rintro e w' ⟨rfl, hb⟩; (try (have pb_ := Lib.hid (PB.out.below hb); clear PB; have PB := pb_)); have st_ := Lib.hid (ST.out.call hb); clear ST hb; have ST := st_)
      | (go_at_call 40; (with_reducible refine (T1.out _).mono ?_); rintro e w' ⟨rfl, hb⟩; (try (have pb_ := Lib.hid (PB.out.below hb); clear PB; have PB := pb_)); have st_ := Lib.hid (ST.out.call hb); clear ST hb; have ST := st_)
      | (go_at_call 41; (with_reducible refine (T2.out _).mono ?_); rintro e w' ⟨rfl, hb⟩; (try (have pb_ := Lib.hid (PB.out.below hb); clear PB; have PB := pb_)); have st_ := Lib.hid (ST.out.call hb); clear ST hb; have ST := st_)
      | (go_at_call 42; (with_reducible refine (T3.out _).mono ?_); rintro e w' ⟨rfl, hb⟩; (try (have pb_ := Lib.hid (PB.out.below hb); clear PB; have PB := pb_)); have st_ := Lib.hid (ST.out.call hb); clear ST hb; have ST := st_)
      | (go_at_call 46; (with_reducible refine (T4.out _).mono ?_); rintro e w' ⟨rfl, hb⟩; (try (have pb_ := Lib.hid (PB.out.below hb); clear PB; have PB := pb_)); have st_ := Lib.hid (ST.out.call hb); clear ST hb; have ST := st_)
      | ((with_reducible refine Step.gate_alloc (t := 41) rfl ?_); refine Step.freshAlloc rfl rfl (alloc_agg zero_inst) ?_; intro g2 w2 b hg hb; have st_ := Lib.hid (ST.out.more b hg hb); clear ST b hg hb; have ST := st_)
      | ((with_reducible refine Step.gate_alloc (t := 41) rfl ?_); refine Step.freshAlloc rfl rfl (alloc_agg zero_inst) ?_; intro g1 w1 b hg hb; have ST := Lib.hid (S1.made b hg hb); clear b hg hb)
      | ((with_reducible refine Calm.region_alloc (id := 1) (fin := ?fin_22) ?hm_22 11 10 4 ?o1_22 (.cells #[.int .i64 0, .int .i64 0, .int .i64 0, .int .i64 0, .int .i64 0, .int .i64 0, .int .i64 0, .bool false] 41 (0, 0)) [(6, .int .u32 a), (7, .int .i64 3), (8, .int .i64 8), (9, .int .u32 a), (10, .int .i64 rd), (11, .int .u32 a), (12, .int .i64 rs1), (13, .int .u32 a), (14, .int .i64 rs2), (15, .agg #[.int .i64 0, .int .i64 0, .int .i64 rd, .int .i64 rs1, .int .i64 rs2, .int .i64 0, .int .i64 8, .bool false])] ?hp_22 ?hin_22 ?hsolo_22 ?hoa_22 (by decide) ?hda_22 ?hga_22 ?hrun_22 ?hfin_22 ?hcalm_22 ?_); (case hm_22 => rfl); (case hoa_22 => rfl); (case hp_22 => kernel_rfl); (case hin_22 => kernel_rfl); (case hsolo_22 => kernel_rfl); (case hda_22 => rfl); (case hga_22 => rfl); (case hrun_22 => exact alloc_run rfl zero_inst); (case hfin_22 => (simp only [Reg.puts, Act.put, List.setIfInBounds_toArray, List.set_cons_zero, List.set_cons_succ]; try rfl)); (case hcalm_22 => (simp only [List.take, List.eraseIdx]; (repeat' (first | exact Calm.calm_nil | refine Calm.calm_cons ?_ ?_)); all_goals (first | exact calm_callg rfl rfl (fun X => by go_simp) (fun X => T0.out X) rfl | exact calm_callg rfl rfl (fun X => by go_simp) (fun X => T1.out X) rfl | exact calm_callg rfl rfl (fun X => by go_simp) (fun X => T2.out X) rfl | exact calm_callg rfl rfl (fun X => by go_simp) (fun X => T3.out X) rfl | exact calm_slot rfl rfl (fun X => by first | (go_simp; done) | (go_simp; rfl))))); intro g2 w1 hg hlt hb ho; have st_ := Lib.hid (ST.out.more ⟨ho⟩ hg hb); clear ST; have ST := st_; clear hg hlt hb ho; simp only [List.drop, Calm.ptr, Act.put, List.setIfInBounds_toArray, List.set_cons_zero, List.set_cons_succ])
      | (go_at_call 45; (with_reducible refine (T5.out _).mono ?_); rintro e w' ⟨rfl, hb⟩; (try (have pb_ := Lib.hid (PB.out.below hb); clear PB; have PB := pb_)); have st_ := Lib.hid (ST.out.call hb); clear ST hb; have ST := st_)
      | ((with_reducible refine Step.gate_store (t := 3) rfl ?_); refine Step.store ST.out.one rfl rfl rfl rfl rfl pl_int rfl rfl ?_; intro w3 nb m; have st_ := Lib.hid (ST.out.set1 nb m); clear ST nb m; have ST := st_)
      | ((with_reducible refine Step.gate_store (t := 4) rfl ?_); refine Step.store ST.out.one rfl rfl rfl rfl rfl pl_bool rfl rfl ?_; intro w3 nb m; have st_ := Lib.hid (ST.out.set1 nb m); clear ST nb m; have ST := st_)
      | ((with_reducible refine Step.gate_store (t := 41) rfl ?_); refine Step.storeAll ST.out.one rfl rfl rfl rfl rfl size_inst rfl rfl ?_; intro w3 nb m; have st_ := Lib.hid (ST.out.set1 nb m); clear ST nb m; have ST := st_)
      | ((with_reducible refine Step.gate_load (t := 3) rfl ?_); refine Step.load ST.out.one rfl rfl rfl pl_int rfl ?_)
      | ((with_reducible refine Step.gate_load (t := 4) rfl ?_); refine Step.load ST.out.one rfl rfl rfl pl_bool rfl ?_)
      | ((with_reducible refine Step.gate_load (t := 41) rfl ?_); refine Step.loadAll ST.out.one rfl rfl rfl Try.underlying41 rfl size_inst ?_)
      | ((with_reducible refine Step.gate_store (t := 3) rfl ?_); refine Step.store ST.out.two rfl rfl rfl rfl rfl pl_int rfl rfl ?_; intro w3 nb m; have st_ := Lib.hid (ST.out.set2 nb m); clear ST nb m; have ST := st_)
      | ((with_reducible refine Step.gate_store (t := 4) rfl ?_); refine Step.store ST.out.two rfl rfl rfl rfl rfl pl_bool rfl rfl ?_; intro w3 nb m; have st_ := Lib.hid (ST.out.set2 nb m); clear ST nb m; have ST := st_)
      | ((with_reducible refine Step.gate_store (t := 41) rfl ?_); refine Step.storeAll ST.out.two rfl rfl rfl rfl rfl size_inst rfl rfl ?_; intro w3 nb m; have st_ := Lib.hid (ST.out.set2 nb m); clear ST nb m; have ST := st_)
      | ((with_reducible refine Step.gate_load (t := 3) rfl ?_); refine Step.load ST.out.two rfl rfl rfl pl_int rfl ?_)
      | ((with_reducible refine Step.gate_load (t := 4) rfl ?_); refine Step.load ST.out.two rfl rfl rfl pl_bool rfl ?_)
      | ((with_reducible refine Step.gate_load (t := 41) rfl ?_); refine Step.loadAll ST.out.two rfl rfl rfl Try.underlying41 rfl size_inst ?_))
    refine bodyPost_ret (results_row_tmp rfl _ _ g1 _ _ _ rfl ST.out.one Try.underlying41 rfl size_inst) rfl ⟨rfl, ST.out.below⟩
  rw [if_neg h3]
  by_cases h1 : f = 1
  · rw [if_pos h1]
    clear bf
    go_enter Try.func38, Try.ntmps38
    go_wp2_with (first
      | (go_at_call 36; (with_reducible refine (T0.out _).mono ?_); rintro e w' ⟨rfl, hb⟩; (try (have pb_ := Lib.hid (PB.out.below hb); clear PB; have PB := pb_)); have st_ := Lib.hid (ST.out.call hb); clear ST hb; have ST := st_)
      | (go_at_call 40; (with_reducible refine (T1.out _).mono ?_); rintro e w' ⟨rfl, hb⟩; (try (have pb_ := Lib.hid (PB.out.below hb); clear PB; have PB := pb_)); have st_ := Lib.hid (ST.out.call hb); clear ST hb; have ST := st_)
      | (go_at_call 41; (with_reducible refine (T2.out _).mono ?_); rintro e w' ⟨rfl, hb⟩; (try (have pb_ := Lib.hid (PB.out.below hb); clear PB; have PB := pb_)); have st_ := Lib.hid (ST.out.call hb); clear ST hb; have ST := st_)
      | (go_at_call 42; (with_reducible refine (T3.out _).mono ?_); rintro e w' ⟨rfl, hb⟩; (try (have pb_ := Lib.hid (PB.out.below hb); clear PB; have PB := pb_)); have st_ := Lib.hid (ST.out.call hb); clear ST hb; have ST := st_)
      | (go_at_call 46; (with_reducible refine (T4.out _).mono ?_); rintro e w' ⟨rfl, hb⟩; (try (have pb_ := Lib.hid (PB.out.below hb); clear PB; have PB := pb_)); have st_ := Lib.hid (ST.out.call hb); clear ST hb; have ST := st_)
      | ((with_reducible refine Step.gate_alloc (t := 41) rfl ?_); refine Step.freshAlloc rfl rfl (alloc_agg zero_inst) ?_; intro g2 w2 b hg hb; have st_ := Lib.hid (ST.out.more b hg hb); clear ST b hg hb; have ST := st_)
      | ((with_reducible refine Step.gate_alloc (t := 41) rfl ?_); refine Step.freshAlloc rfl rfl (alloc_agg zero_inst) ?_; intro g1 w1 b hg hb; have ST := Lib.hid (S1.made b hg hb); clear b hg hb)
      | ((with_reducible refine Calm.region_alloc (id := 1) (fin := ?fin_23) ?hm_23 11 10 4 ?o1_23 (.cells #[.int .i64 0, .int .i64 0, .int .i64 0, .int .i64 0, .int .i64 0, .int .i64 0, .int .i64 0, .bool false] 41 (0, 0)) [(6, .int .u32 a), (7, .int .i64 3), (8, .int .i64 8), (9, .int .u32 a), (10, .int .i64 rd), (11, .int .u32 a), (12, .int .i64 rs1), (13, .int .u32 a), (14, .int .i64 rs2), (15, .agg #[.int .i64 0, .int .i64 0, .int .i64 rd, .int .i64 rs1, .int .i64 rs2, .int .i64 0, .int .i64 8, .bool false])] ?hp_23 ?hin_23 ?hsolo_23 ?hoa_23 (by decide) ?hda_23 ?hga_23 ?hrun_23 ?hfin_23 ?hcalm_23 ?_); (case hm_23 => rfl); (case hoa_23 => rfl); (case hp_23 => kernel_rfl); (case hin_23 => kernel_rfl); (case hsolo_23 => kernel_rfl); (case hda_23 => rfl); (case hga_23 => rfl); (case hrun_23 => exact alloc_run rfl zero_inst); (case hfin_23 => (simp only [Reg.puts, Act.put, List.setIfInBounds_toArray, List.set_cons_zero, List.set_cons_succ]; try rfl)); (case hcalm_23 => (simp only [List.take, List.eraseIdx]; (repeat' (first | exact Calm.calm_nil | refine Calm.calm_cons ?_ ?_)); all_goals (first | exact calm_callg rfl rfl (fun X => by go_simp) (fun X => T0.out X) rfl | exact calm_callg rfl rfl (fun X => by go_simp) (fun X => T1.out X) rfl | exact calm_callg rfl rfl (fun X => by go_simp) (fun X => T2.out X) rfl | exact calm_callg rfl rfl (fun X => by go_simp) (fun X => T3.out X) rfl | exact calm_slot rfl rfl (fun X => by first | (go_simp; done) | (go_simp; rfl))))); intro g2 w1 hg hlt hb ho; have st_ := Lib.hid (ST.out.more ⟨ho⟩ hg hb); clear ST; have ST := st_; clear hg hlt hb ho; simp only [List.drop, Calm.ptr, Act.put, List.setIfInBounds_toArray, List.set_cons_zero, List.set_cons_succ])
      | (go_at_call 45; (with_reducible refine (T5.out _).mono ?_); rintro e w' ⟨rfl, hb⟩; (try (have pb_ := Lib.hid (PB.out.below hb); clear PB; have PB := pb_)); have st_ := Lib.hid (ST.out.call hb); clear ST hb; have ST := st_)
      | ((with_reducible refine Step.gate_store (t := 3) rfl ?_); refine Step.store ST.out.one rfl rfl rfl rfl rfl pl_int rfl rfl ?_; intro w3 nb m; have st_ := Lib.hid (ST.out.set1 nb m); clear ST nb m; have ST := st_)
      | ((with_reducible refine Step.gate_store (t := 4) rfl ?_); refine Step.store ST.out.one rfl rfl rfl rfl rfl pl_bool rfl rfl ?_; intro w3 nb m; have st_ := Lib.hid (ST.out.set1 nb m); clear ST nb m; have ST := st_)
      | ((with_reducible refine Step.gate_store (t := 41) rfl ?_); refine Step.storeAll ST.out.one rfl rfl rfl rfl rfl size_inst rfl rfl ?_; intro w3 nb m; have st_ := Lib.hid (ST.out.set1 nb m); clear ST nb m; have ST := st_)
      | ((with_reducible refine Step.gate_load (t := 3) rfl ?_); refine Step.load ST.out.one rfl rfl rfl pl_int rfl ?_)
      | ((with_reducible refine Step.gate_load (t := 4) rfl ?_); refine Step.load ST.out.one rfl rfl rfl pl_bool rfl ?_)
      | ((with_reducible refine Step.gate_load (t := 41) rfl ?_); refine Step.loadAll ST.out.one rfl rfl rfl Try.underlying41 rfl size_inst ?_)
      | ((with_reducible refine Step.gate_store (t := 3) rfl ?_); refine Step.store ST.out.two rfl rfl rfl rfl rfl pl_int rfl rfl ?_; intro w3 nb m; have st_ := Lib.hid (ST.out.set2 nb m); clear ST nb m; have ST := st_)
      | ((with_reducible refine Step.gate_store (t := 4) rfl ?_); refine Step.store ST.out.two rfl rfl rfl rfl rfl pl_bool rfl rfl ?_; intro w3 nb m; have st_ := Lib.hid (ST.out.set2 nb m); clear ST nb m; have ST := st_)
      | ((with_reducible refine Step.gate_store (t := 41) rfl ?_); refine Step.storeAll ST.out.two rfl rfl rfl rfl rfl size_inst rfl rfl ?_; intro w3 nb m; have st_ := Lib.hid (ST.out.set2 nb m); clear ST nb m; have ST := st_)
      | ((with_reducible refine Step.gate_load (t := 3) rfl ?_); refine Step.load ST.out.two rfl rfl rfl pl_int rfl ?_)
      | ((with_reducible refine Step.gate_load (t := 4) rfl ?_); refine Step.load ST.out.two rfl rfl rfl pl_bool rfl ?_)
      | ((with_reducible refine Step.gate_load (t := 41) rfl ?_); refine Step.loadAll ST.out.two rfl rfl rfl Try.underlying41 rfl size_inst ?_))
    refine bodyPost_ret (results_row_tmp rfl _ _ g1 _ _ _ rfl ST.out.one Try.underlying41 rfl size_inst) rfl ⟨rfl, ST.out.below⟩
  rw [if_neg h1]
  have hm : bits .and .i64 f 3 = f % 4 := i64_mask 2 ⟨bf.1, by omega⟩ (by decide)
  by_cases h4 : f % 4 = 0
  · rw [if_pos h4]
    have hm' : bits .and .i64 f 3 = 0 := hm.trans h4
    have hq : f.tdiv 4 = f / 4 := Int.tdiv_eq_ediv_of_nonneg bf.1
    have HX := Lib.hid (show -9223372036854775808 ≤ f / 4 ∧ f / 4 < 9223372036854775808 by omega)
    have hw : wrap64 (f / 4) = f / 4 := by unfold wrap64; omega
    generalize f / 4 = q at *
    clear hm bf h4
    go_enter Try.func38, Try.ntmps38
    go_wp2_with (first
      | (go_at_call 36; (with_reducible refine (T0.out _).mono ?_); rintro e w' ⟨rfl, hb⟩; (try (have pb_ := Lib.hid (PB.out.below hb); clear PB; have PB := pb_)); have st_ := Lib.hid (ST.out.call hb); clear ST hb; have ST := st_)
      | (go_at_call 40; (with_reducible refine (T1.out _).mono ?_); rintro e w' ⟨rfl, hb⟩; (try (have pb_ := Lib.hid (PB.out.below hb); clear PB; have PB := pb_)); have st_ := Lib.hid (ST.out.call hb); clear ST hb; have ST := st_)
      | (go_at_call 41; (with_reducible refine (T2.out _).mono ?_); rintro e w' ⟨rfl, hb⟩; (try (have pb_ := Lib.hid (PB.out.below hb); clear PB; have PB := pb_)); have st_ := Lib.hid (ST.out.call hb); clear ST hb; have ST := st_)
      | (go_at_call 42; (with_reducible refine (T3.out _).mono ?_); rintro e w' ⟨rfl, hb⟩; (try (have pb_ := Lib.hid (PB.out.below hb); clear PB; have PB := pb_)); have st_ := Lib.hid (ST.out.call hb); clear ST hb; have ST := st_)
      | (go_at_call 46; (with_reducible refine (T4.out _).mono ?_); rintro e w' ⟨rfl, hb⟩; (try (have pb_ := Lib.hid (PB.out.below hb); clear PB; have PB := pb_)); have st_ := Lib.hid (ST.out.call hb); clear ST hb; have ST := st_)
      | ((with_reducible refine Step.gate_alloc (t := 41) rfl ?_); refine Step.freshAlloc rfl rfl (alloc_agg zero_inst) ?_; intro g2 w2 b hg hb; have st_ := Lib.hid (ST.out.more b hg hb); clear ST b hg hb; have ST := st_)
      | ((with_reducible refine Step.gate_alloc (t := 41) rfl ?_); refine Step.freshAlloc rfl rfl (alloc_agg zero_inst) ?_; intro g1 w1 b hg hb; have ST := Lib.hid (S1.made b hg hb); clear b hg hb)
      | ((with_reducible refine Calm.region_alloc (id := 1) (fin := ?fin_24) ?hm_24 11 10 4 ?o1_24 (.cells #[.int .i64 0, .int .i64 0, .int .i64 0, .int .i64 0, .int .i64 0, .int .i64 0, .int .i64 0, .bool false] 41 (0, 0)) [(6, .int .u32 a), (7, .int .i64 3), (8, .int .i64 8), (9, .int .u32 a), (10, .int .i64 rd), (11, .int .u32 a), (12, .int .i64 rs1), (13, .int .u32 a), (14, .int .i64 rs2), (15, .agg #[.int .i64 0, .int .i64 0, .int .i64 rd, .int .i64 rs1, .int .i64 rs2, .int .i64 0, .int .i64 8, .bool false])] ?hp_24 ?hin_24 ?hsolo_24 ?hoa_24 (by decide) ?hda_24 ?hga_24 ?hrun_24 ?hfin_24 ?hcalm_24 ?_); (case hm_24 => rfl); (case hoa_24 => rfl); (case hp_24 => kernel_rfl); (case hin_24 => kernel_rfl); (case hsolo_24 => kernel_rfl); (case hda_24 => rfl); (case hga_24 => rfl); (case hrun_24 => exact alloc_run rfl zero_inst); (case hfin_24 => (simp only [Reg.puts, Act.put, List.setIfInBounds_toArray, List.set_cons_zero, List.set_cons_succ]; try rfl)); (case hcalm_24 => (simp only [List.take, List.eraseIdx]; (repeat' (first | exact Calm.calm_nil | refine Calm.calm_cons ?_ ?_)); all_goals (first | exact calm_callg rfl rfl (fun X => by go_simp) (fun X => T0.out X) rfl | exact calm_callg rfl rfl (fun X => by go_simp) (fun X => T1.out X) rfl | exact calm_callg rfl rfl (fun X => by go_simp) (fun X => T2.out X) rfl | exact calm_callg rfl rfl (fun X => by go_simp) (fun X => T3.out X) rfl | exact calm_slot rfl rfl (fun X => by first | (go_simp; done) | (go_simp; rfl))))); intro g2 w1 hg hlt hb ho; have st_ := Lib.hid (ST.out.more ⟨ho⟩ hg hb); clear ST; have ST := st_; clear hg hlt hb ho; simp only [List.drop, Calm.ptr, Act.put, List.setIfInBounds_toArray, List.set_cons_zero, List.set_cons_succ])
      | (go_at_call 45; (with_reducible refine (T5.out _).mono ?_); rintro e w' ⟨rfl, hb⟩; (try (have pb_ := Lib.hid (PB.out.below hb); clear PB; have PB := pb_)); have st_ := Lib.hid (ST.out.call hb); clear ST hb; have ST := st_)
      | ((with_reducible refine Step.gate_build (t := 57) rfl ?_); refine Step.freshSlice (cs := #[.int .i64 2, .int .i64 3, .int .i64 5, .int .i64 4, .int .i64 6, .int .i64 7, .int .i64 8, .int .i64 9]) (T := 3) (n := 8) (m := 8) rfl ?hr ?_; (case hr => first | (go_simp; done) | (go_simp; rfl)); intro g9 w1 b hg hb; have PB := Lib.hid (show Blk w1 g9 (Enc.ints ([2, 3, 5, 4, 6, 7, 8, 9] : List Int)) _ from b); have st_ := Lib.hid (ST.out.call hb); clear ST b hb hg; have ST := st_)
      | (go_at_call 47; have pk_ := pick_any (n := 8) PB.out ([2, 3, 5, 4, 6, 7, 8, 9] : List Int) rfl rfl (by decide) q HX.out; (with_reducible refine pk_.mono ?_); clear pk_; rintro e w' ⟨rfl, hb⟩; clear PB; have st_ := Lib.hid (ST.out.call hb); clear ST hb; have ST := st_)
      | ((with_reducible refine Step.gate_store (t := 3) rfl ?_); refine Step.store ST.out.one rfl rfl rfl rfl rfl pl_int rfl rfl ?_; intro w3 nb m; have st_ := Lib.hid (ST.out.set1 nb m); clear ST nb m; have ST := st_)
      | ((with_reducible refine Step.gate_store (t := 4) rfl ?_); refine Step.store ST.out.one rfl rfl rfl rfl rfl pl_bool rfl rfl ?_; intro w3 nb m; have st_ := Lib.hid (ST.out.set1 nb m); clear ST nb m; have ST := st_)
      | ((with_reducible refine Step.gate_store (t := 41) rfl ?_); refine Step.storeAll ST.out.one rfl rfl rfl rfl rfl size_inst rfl rfl ?_; intro w3 nb m; have st_ := Lib.hid (ST.out.set1 nb m); clear ST nb m; have ST := st_)
      | ((with_reducible refine Step.gate_load (t := 3) rfl ?_); refine Step.load ST.out.one rfl rfl rfl pl_int rfl ?_)
      | ((with_reducible refine Step.gate_load (t := 4) rfl ?_); refine Step.load ST.out.one rfl rfl rfl pl_bool rfl ?_)
      | ((with_reducible refine Step.gate_load (t := 41) rfl ?_); refine Step.loadAll ST.out.one rfl rfl rfl Try.underlying41 rfl size_inst ?_)
      | ((with_reducible refine Step.gate_store (t := 3) rfl ?_); refine Step.store ST.out.two rfl rfl rfl rfl rfl pl_int rfl rfl ?_; intro w3 nb m; have st_ := Lib.hid (ST.out.set2 nb m); clear ST nb m; have ST := st_)
      | ((with_reducible refine Step.gate_store (t := 4) rfl ?_); refine Step.store ST.out.two rfl rfl rfl rfl rfl pl_bool rfl rfl ?_; intro w3 nb m; have st_ := Lib.hid (ST.out.set2 nb m); clear ST nb m; have ST := st_)
      | ((with_reducible refine Step.gate_store (t := 41) rfl ?_); refine Step.storeAll ST.out.two rfl rfl rfl rfl rfl size_inst rfl rfl ?_; intro w3 nb m; have st_ := Lib.hid (ST.out.set2 nb m); clear ST nb m; have ST := st_)
      | ((with_reducible refine Step.gate_load (t := 3) rfl ?_); refine Step.load ST.out.two rfl rfl rfl pl_int rfl ?_)
      | ((with_reducible refine Step.gate_load (t := 4) rfl ?_); refine Step.load ST.out.two rfl rfl rfl pl_bool rfl ?_)
      | ((with_reducible refine Step.gate_load (t := 41) rfl ?_); refine Step.loadAll ST.out.two rfl rfl rfl Try.underlying41 rfl size_inst ?_))
    refine bodyPost_ret (results_row_tmp rfl _ _ g1 _ _ _ rfl ST.out.one Try.underlying41 rfl size_inst) rfl ⟨rfl, ST.out.below⟩
  · rw [if_neg h4]
    have hm' : (bits .and .i64 f 3 != 0) = true := by rw [hm]; exact bne_iff_ne.2 h4
    clear hm bf
    go_enter Try.func38, Try.ntmps38
    go_wp2_with (first
      | (go_at_call 36; (with_reducible refine (T0.out _).mono ?_); rintro e w' ⟨rfl, hb⟩; (try (have pb_ := Lib.hid (PB.out.below hb); clear PB; have PB := pb_)); have st_ := Lib.hid (ST.out.call hb); clear ST hb; have ST := st_)
      | (go_at_call 40; (with_reducible refine (T1.out _).mono ?_); rintro e w' ⟨rfl, hb⟩; (try (have pb_ := Lib.hid (PB.out.below hb); clear PB; have PB := pb_)); have st_ := Lib.hid (ST.out.call hb); clear ST hb; have ST := st_)
      | (go_at_call 41; (with_reducible refine (T2.out _).mono ?_); rintro e w' ⟨rfl, hb⟩; (try (have pb_ := Lib.hid (PB.out.below hb); clear PB; have PB := pb_)); have st_ := Lib.hid (ST.out.call hb); clear ST hb; have ST := st_)
      | (go_at_call 42; (with_reducible refine (T3.out _).mono ?_); rintro e w' ⟨rfl, hb⟩; (try (have pb_ := Lib.hid (PB.out.below hb); clear PB; have PB := pb_)); have st_ := Lib.hid (ST.out.call hb); clear ST hb; have ST := st_)
      | (go_at_call 46; (with_reducible refine (T4.out _).mono ?_); rintro e w' ⟨rfl, hb⟩; (try (have pb_ := Lib.hid (PB.out.below hb); clear PB; have PB := pb_)); have st_ := Lib.hid (ST.out.call hb); clear ST hb; have ST := st_)
      | ((with_reducible refine Step.gate_alloc (t := 41) rfl ?_); refine Step.freshAlloc rfl rfl (alloc_agg zero_inst) ?_; intro g2 w2 b hg hb; have st_ := Lib.hid (ST.out.more b hg hb); clear ST b hg hb; have ST := st_)
      | ((with_reducible refine Step.gate_alloc (t := 41) rfl ?_); refine Step.freshAlloc rfl rfl (alloc_agg zero_inst) ?_; intro g1 w1 b hg hb; have ST := Lib.hid (S1.made b hg hb); clear b hg hb)
      | ((with_reducible refine Calm.region_alloc (id := 1) (fin := ?fin_25) ?hm_25 11 10 4 ?o1_25 (.cells #[.int .i64 0, .int .i64 0, .int .i64 0, .int .i64 0, .int .i64 0, .int .i64 0, .int .i64 0, .bool false] 41 (0, 0)) [(6, .int .u32 a), (7, .int .i64 3), (8, .int .i64 8), (9, .int .u32 a), (10, .int .i64 rd), (11, .int .u32 a), (12, .int .i64 rs1), (13, .int .u32 a), (14, .int .i64 rs2), (15, .agg #[.int .i64 0, .int .i64 0, .int .i64 rd, .int .i64 rs1, .int .i64 rs2, .int .i64 0, .int .i64 8, .bool false])] ?hp_25 ?hin_25 ?hsolo_25 ?hoa_25 (by decide) ?hda_25 ?hga_25 ?hrun_25 ?hfin_25 ?hcalm_25 ?_); (case hm_25 => rfl); (case hoa_25 => rfl); (case hp_25 => kernel_rfl); (case hin_25 => kernel_rfl); (case hsolo_25 => kernel_rfl); (case hda_25 => rfl); (case hga_25 => rfl); (case hrun_25 => exact alloc_run rfl zero_inst); (case hfin_25 => (simp only [Reg.puts, Act.put, List.setIfInBounds_toArray, List.set_cons_zero, List.set_cons_succ]; try rfl)); (case hcalm_25 => (simp only [List.take, List.eraseIdx]; (repeat' (first | exact Calm.calm_nil | refine Calm.calm_cons ?_ ?_)); all_goals (first | exact calm_callg rfl rfl (fun X => by go_simp) (fun X => T0.out X) rfl | exact calm_callg rfl rfl (fun X => by go_simp) (fun X => T1.out X) rfl | exact calm_callg rfl rfl (fun X => by go_simp) (fun X => T2.out X) rfl | exact calm_callg rfl rfl (fun X => by go_simp) (fun X => T3.out X) rfl | exact calm_slot rfl rfl (fun X => by first | (go_simp; done) | (go_simp; rfl))))); intro g2 w1 hg hlt hb ho; have st_ := Lib.hid (ST.out.more ⟨ho⟩ hg hb); clear ST; have ST := st_; clear hg hlt hb ho; simp only [List.drop, Calm.ptr, Act.put, List.setIfInBounds_toArray, List.set_cons_zero, List.set_cons_succ])
      | (go_at_call 45; (with_reducible refine (T5.out _).mono ?_); rintro e w' ⟨rfl, hb⟩; (try (have pb_ := Lib.hid (PB.out.below hb); clear PB; have PB := pb_)); have st_ := Lib.hid (ST.out.call hb); clear ST hb; have ST := st_)
      | ((with_reducible refine Step.gate_store (t := 3) rfl ?_); refine Step.store ST.out.one rfl rfl rfl rfl rfl pl_int rfl rfl ?_; intro w3 nb m; have st_ := Lib.hid (ST.out.set1 nb m); clear ST nb m; have ST := st_)
      | ((with_reducible refine Step.gate_store (t := 4) rfl ?_); refine Step.store ST.out.one rfl rfl rfl rfl rfl pl_bool rfl rfl ?_; intro w3 nb m; have st_ := Lib.hid (ST.out.set1 nb m); clear ST nb m; have ST := st_)
      | ((with_reducible refine Step.gate_store (t := 41) rfl ?_); refine Step.storeAll ST.out.one rfl rfl rfl rfl rfl size_inst rfl rfl ?_; intro w3 nb m; have st_ := Lib.hid (ST.out.set1 nb m); clear ST nb m; have ST := st_)
      | ((with_reducible refine Step.gate_load (t := 3) rfl ?_); refine Step.load ST.out.one rfl rfl rfl pl_int rfl ?_)
      | ((with_reducible refine Step.gate_load (t := 4) rfl ?_); refine Step.load ST.out.one rfl rfl rfl pl_bool rfl ?_)
      | ((with_reducible refine Step.gate_load (t := 41) rfl ?_); refine Step.loadAll ST.out.one rfl rfl rfl Try.underlying41 rfl size_inst ?_)
      | ((with_reducible refine Step.gate_store (t := 3) rfl ?_); refine Step.store ST.out.two rfl rfl rfl rfl rfl pl_int rfl rfl ?_; intro w3 nb m; have st_ := Lib.hid (ST.out.set2 nb m); clear ST nb m; have ST := st_)
      | ((with_reducible refine Step.gate_store (t := 4) rfl ?_); refine Step.store ST.out.two rfl rfl rfl rfl rfl pl_bool rfl rfl ?_; intro w3 nb m; have st_ := Lib.hid (ST.out.set2 nb m); clear ST nb m; have ST := st_)
      | ((with_reducible refine Step.gate_store (t := 41) rfl ?_); refine Step.storeAll ST.out.two rfl rfl rfl rfl rfl size_inst rfl rfl ?_; intro w3 nb m; have st_ := Lib.hid (ST.out.set2 nb m); clear ST nb m; have ST := st_)
      | ((with_reducible refine Step.gate_load (t := 3) rfl ?_); refine Step.load ST.out.two rfl rfl rfl pl_int rfl ?_)
      | ((with_reducible refine Step.gate_load (t := 4) rfl ?_); refine Step.load ST.out.two rfl rfl rfl pl_bool rfl ?_)
      | ((with_reducible refine Step.gate_load (t := 41) rfl ?_); refine Step.loadAll ST.out.two rfl rfl rfl Try.underlying41 rfl size_inst ?_))
    refine bodyPost_ret (results_row_tmp rfl _ _ g1 _ _ _ rfl ST.out.one Try.underlying41 rfl size_inst) rfl ⟨rfl, ST.out.below⟩
end Go.Proofs.Ytecpkipgkaaefaa.Enc
end
