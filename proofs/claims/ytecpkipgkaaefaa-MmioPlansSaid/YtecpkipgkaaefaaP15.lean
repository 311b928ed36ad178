/- Parts of the walks and laws for the claim: DecR; no conditions beyond the theorems' own. -/
import Derived.Test.YtecpkipgkaaefaaP4
import Derived.Test.YtecpkipgkaaefaaP6
section
namespace Go.Proofs.Ytecpkipgkaaefaa.Enc
open Go Go.RowKit Go.Proofs.Ytecpkipgkaaefaa.Step
set_option linter.unusedVariables false
set_option linter.unusedSimpArgs false
set_option maxRecDepth 100000
theorem rsystem_11 (x s rd rs1 rs2 : Int) (w : World) : Calls Try.prog 32 #[.int .u32 115, .int .i64 x, .int .i64 s, .int .i64 rd, .int .i64 rs1, .int .i64 rs2] w fun e w' => e = .returned (told (some ⟨11, 0, 0, 0, 0, 0, 0, false⟩)) ∧ Below w.heap.size w w' := by
  go_enter Try.func32, Try.ntmps32
  go_wp2_with (first
    | ((with_reducible refine Step.gate_alloc (t := 41) rfl ?_); refine Step.freshAlloc rfl rfl (alloc_agg zero_inst) ?_; intro g1 w1 b hg hb; have ST := Lib.hid (S1.made b hg hb); clear b hg hb)
    | ((with_reducible refine Step.gate_store (t := 3) rfl ?_); refine Step.store ST.out.one rfl rfl rfl rfl rfl pl_int rfl rfl ?_; intro w3 nb m; have st_ := Lib.hid (ST.out.set1 nb m); clear ST nb m; have ST := st_)
    | ((with_reducible refine Step.gate_store (t := 4) rfl ?_); refine Step.store ST.out.one rfl rfl rfl rfl rfl pl_bool rfl rfl ?_; intro w3 nb m; have st_ := Lib.hid (ST.out.set1 nb m); clear ST nb m; have ST := st_)
    | ((with_reducible refine Step.gate_store (t := 41) rfl ?_); refine Step.storeAll ST.out.one rfl rfl rfl rfl rfl size_inst rfl rfl ?_; intro w3 nb m; have st_ := Lib.hid (ST.out.set1 nb m); clear ST nb m; have ST := st_)
    | ((with_reducible refine Step.gate_load (t := 3) rfl ?_); refine Step.load ST.out.one rfl rfl rfl pl_int rfl ?_)
    | ((with_reducible refine Step.gate_load (t := 4) rfl ?_); refine Step.load ST.out.one rfl rfl rfl pl_bool rfl ?_)
    | ((with_reducible refine Step.gate_load (t := 41) rfl ?_); refine Step.loadAll ST.out.one rfl rfl rfl Try.underlying41 rfl size_inst ?_))
  refine bodyPost_ret (results_row_tmp rfl _ _ g1 _ _ _ rfl ST.out.one Try.underlying41 rfl size_inst) rfl ⟨rfl, ST.out.below⟩
theorem rsystem_12 (x s rd rs1 rs2 : Int) (w : World) : Calls Try.prog 32 #[.int .u32 1048691, .int .i64 x, .int .i64 s, .int .i64 rd, .int .i64 rs1, .int .i64 rs2] w fun e w' => e = .returned (told (some ⟨12, 0, 0, 0, 0, 0, 0, false⟩)) ∧ Below w.heap.size w w' := by
  go_enter Try.func32, Try.ntmps32
  go_wp2_with (first
    | ((with_reducible refine Step.gate_alloc (t := 41) rfl ?_); refine Step.freshAlloc rfl rfl (alloc_agg zero_inst) ?_; intro g1 w1 b hg hb; have ST := Lib.hid (S1.made b hg hb); clear b hg hb)
    | ((with_reducible refine Step.gate_store (t := 3) rfl ?_); refine Step.store ST.out.one rfl rfl rfl rfl rfl pl_int rfl rfl ?_; intro w3 nb m; have st_ := Lib.hid (ST.out.set1 nb m); clear ST nb m; have ST := st_)
    | ((with_reducible refine Step.gate_store (t := 4) rfl ?_); refine Step.store ST.out.one rfl rfl rfl rfl rfl pl_bool rfl rfl ?_; intro w3 nb m; have st_ := Lib.hid (ST.out.set1 nb m); clear ST nb m; have ST := st_)
    | ((with_reducible refine Step.gate_store (t := 41) rfl ?_); refine Step.storeAll ST.out.one rfl rfl rfl rfl rfl size_inst rfl rfl ?_; intro w3 nb m; have st_ := Lib.hid (ST.out.set1 nb m); clear ST nb m; have ST := st_)
    | ((with_reducible refine Step.gate_load (t := 3) rfl ?_); refine Step.load ST.out.one rfl rfl rfl pl_int rfl ?_)
    | ((with_reducible refine Step.gate_load (t := 4) rfl ?_); refine Step.load ST.out.one rfl rfl rfl pl_bool rfl ?_)
    | ((with_reducible refine Step.gate_load (t := 41) rfl ?_); refine Step.loadAll ST.out.one rfl rfl rfl Try.underlying41 rfl size_inst ?_))
  refine bodyPost_ret (results_row_tmp rfl _ _ g1 _ _ _ rfl ST.out.one Try.underlying41 rfl size_inst) rfl ⟨rfl, ST.out.below⟩
theorem rsystem_18 (x s rd rs1 rs2 : Int) (w : World) : Calls Try.prog 32 #[.int .u32 270532723, .int .i64 x, .int .i64 s, .int .i64 rd, .int .i64 rs1, .int .i64 rs2] w fun e w' => e = .returned (told (some ⟨18, 0, 0, 0, 0, 0, 0, false⟩)) ∧ Below w.heap.size w w' := by
  go_enter Try.func32, Try.ntmps32
  go_wp2_with (first
    | ((with_reducible refine Step.gate_alloc (t := 41) rfl ?_); refine Step.freshAlloc rfl rfl (alloc_agg zero_inst) ?_; intro g1 w1 b hg hb; have ST := Lib.hid (S1.made b hg hb); clear b hg hb)
    | ((with_reducible refine Step.gate_store (t := 3) rfl ?_); refine Step.store ST.out.one rfl rfl rfl rfl rfl pl_int rfl rfl ?_; intro w3 nb m; have st_ := Lib.hid (ST.out.set1 nb m); clear ST nb m; have ST := st_)
    | ((with_reducible refine Step.gate_store (t := 4) rfl ?_); refine Step.store ST.out.one rfl rfl rfl rfl rfl pl_bool rfl rfl ?_; intro w3 nb m; have st_ := Lib.hid (ST.out.set1 nb m); clear ST nb m; have ST := st_)
    | ((with_reducible refine Step.gate_store (t := 41) rfl ?_); refine Step.storeAll ST.out.one rfl rfl rfl rfl rfl size_inst rfl rfl ?_; intro w3 nb m; have st_ := Lib.hid (ST.out.set1 nb m); clear ST nb m; have ST := st_)
    | ((with_reducible refine Step.gate_load (t := 3) rfl ?_); refine Step.load ST.out.one rfl rfl rfl pl_int rfl ?_)
    | ((with_reducible refine Step.gate_load (t := 4) rfl ?_); refine Step.load ST.out.one rfl rfl rfl pl_bool rfl ?_)
    | ((with_reducible refine Step.gate_load (t := 41) rfl ?_); refine Step.loadAll ST.out.one rfl rfl rfl Try.underlying41 rfl size_inst ?_))
  refine bodyPost_ret (results_row_tmp rfl _ _ g1 _ _ _ rfl ST.out.one Try.underlying41 rfl size_inst) rfl ⟨rfl, ST.out.below⟩
theorem rsystem_19 (x s rd rs1 rs2 : Int) (w : World) : Calls Try.prog 32 #[.int .u32 273678451, .int .i64 x, .int .i64 s, .int .i64 rd, .int .i64 rs1, .int .i64 rs2] w fun e w' => e = .returned (told (some ⟨19, 0, 0, 0, 0, 0, 0, false⟩)) ∧ Below w.heap.size w w' := by
  go_enter Try.func32, Try.ntmps32
  go_wp2_with (first
    | ((with_reducible refine Step.gate_alloc (t := 41) rfl ?_); refine Step.freshAlloc rfl rfl (alloc_agg zero_inst) ?_; intro g1 w1 b hg hb; have ST := Lib.hid (S1.made b hg hb); clear b hg hb)
    | ((with_reducible refine Step.gate_store (t := 3) rfl ?_); refine Step.store ST.out.one rfl rfl rfl rfl rfl pl_int rfl rfl ?_; intro w3 nb m; have st_ := Lib.hid (ST.out.set1 nb m); clear ST nb m; have ST := st_)
    | ((with_reducible refine Step.gate_store (t := 4) rfl ?_); refine Step.store ST.out.one rfl rfl rfl rfl rfl pl_bool rfl rfl ?_; intro w3 nb m; have st_ := Lib.hid (ST.out.set1 nb m); clear ST nb m; have ST := st_)
    | ((with_reducible refine Step.gate_store (t := 41) rfl ?_); refine Step.storeAll ST.out.one rfl rfl rfl rfl rfl size_inst rfl rfl ?_; intro w3 nb m; have st_ := Lib.hid (ST.out.set1 nb m); clear ST nb m; have ST := st_)
    | ((with_reducible refine Step.gate_load (t := 3) rfl ?_); refine Step.load ST.out.one rfl rfl rfl pl_int rfl ?_)
    | ((with_reducible refine Step.gate_load (t := 4) rfl ?_); refine Step.load ST.out.one rfl rfl rfl pl_bool rfl ?_)
    | ((with_reducible refine Step.gate_load (t := 41) rfl ?_); refine Step.loadAll ST.out.one rfl rfl rfl Try.underlying41 rfl size_inst ?_))
  refine bodyPost_ret (results_row_tmp rfl _ _ g1 _ _ _ rfl ST.out.one Try.underlying41 rfl size_inst) rfl ⟨rfl, ST.out.below⟩
/-- The rest of the system's instructions, over their fields. -/
def sysF (x s rd rs1 rs2 m : Int) : Option Ins :=
  if x = 0 then (if s = 9 ∧ rd = 0 then some ⟨20, 0, 0, rs1, rs2, 0, 0, false⟩ else none)
  else if pk csL x = 0 then none
  else some ⟨if x < 4 then 13 else 14, pk csL x, rd, rs1, 0, m, 0, false⟩
set_option maxHeartbeats 2000000 in
theorem rsystem_any (a x s rd rs1 rs2 : Int) (ha : W32 a) (n0 : a ≠ 115) (n1 : a ≠ 1048691) (n2 : a ≠ 270532723) (n3 : a ≠ 273678451) (hx : 0 ≤ x ∧ x < 8) (w : World) : Calls Try.prog 32 #[.int .u32 a, .int .i64 x, .int .i64 s, .int .i64 rd, .int .i64 rs1, .int .i64 rs2] w fun e w' => e = .returned (told (sysF x s rd rs1 rs2 (fd a 31 20))) ∧ Below w.heap.size w w' := by
  have T0 := Lib.hid (fun w => calls_below (rbits_any a 31 20 31 20 ha rfl rfl (by decide) (by decide) w))
  generalize fd a 31 20 = m at *
  obtain h | h | h | h | h | h | h | h : x = 0 ∨ x = 1 ∨ x = 2 ∨ x = 3 ∨ x = 4 ∨ x = 5 ∨ x = 6 ∨ x = 7 := by omega
  · subst h
    clear hx
    by_cases h9 : s = 9
    · by_cases h0 : rd = 0
      · rw [show sysF 0 s rd rs1 rs2 m = (some ⟨20, 0, 0, rs1, rs2, 0, 0, false⟩ : Option Ins) from by simp [sysF, csL, pk, h9, h0]]
        go_enter Try.func32, Try.ntmps32
        go_wp2_with (first
          | (go_at_call 25; (with_reducible refine (T0.out _).mono ?_); rintro e w' ⟨rfl, hb⟩; (try (have pb_ := Lib.hid (PB.out.below hb); clear PB; have PB := pb_)); have st_ := Lib.hid (ST.out.call hb); clear ST hb; have ST := st_)
          | ((with_reducible refine Step.gate_alloc (t := 41) rfl ?_); refine Step.freshAlloc rfl rfl (alloc_agg zero_inst) ?_; intro g1 w1 b hg hb; have ST := Lib.hid (S1.made b hg hb); clear b hg hb)
          | ((with_reducible refine Step.gate_store (t := 3) rfl ?_); refine Step.store ST.out.one rfl rfl rfl rfl rfl pl_int rfl rfl ?_; intro w3 nb m; have st_ := Lib.hid (ST.out.set1 nb m); clear ST nb m; have ST := st_)
          | ((with_reducible refine Step.gate_store (t := 4) rfl ?_); refine Step.store ST.out.one rfl rfl rfl rfl rfl pl_bool rfl rfl ?_; intro w3 nb m; have st_ := Lib.hid (ST.out.set1 nb m); clear ST nb m; have ST := st_)
          | ((with_reducible refine Step.gate_store (t := 41) rfl ?_); refine Step.storeAll ST.out.one rfl rfl rfl rfl rfl size_inst rfl rfl ?_; intro w3 nb m; have st_ := Lib.hid (ST.out.set1 nb m); clear ST nb m; have ST := st_)
          | ((with_reducible refine Step.gate_load (t := 3) rfl ?_); refine Step.load ST.out.one rfl rfl rfl pl_int rfl ?_)
          | ((with_reducible refine Step.gate_load (t := 4) rfl ?_); refine Step.load ST.out.one rfl rfl rfl pl_bool rfl ?_)
          | ((with_reducible refine Step.gate_load (t := 41) rfl ?_); refine Step.loadAll ST.out.one rfl rfl rfl Try.underlying41 rfl size_inst ?_))
        refine bodyPost_ret (results_row_tmp rfl _ _ g1 _ _ _ rfl ST.out.one Try.underlying41 rfl size_inst) rfl ⟨rfl, ST.out.below⟩
      · rw [show sysF 0 s rd rs1 rs2 m = (none : Option Ins) from by simp [sysF, csL, pk, h9, h0]]
        go_enter Try.func32, Try.ntmps32
        go_wp2_with (first
          | (go_at_call 25; (with_reducible refine (T0.out _).mono ?_); rintro e w' ⟨rfl, hb⟩; (try (have pb_ := Lib.hid (PB.out.below hb); clear PB; have PB := pb_)); have st_ := Lib.hid (ST.out.call hb); clear ST hb; have ST := st_)
          | ((with_reducible refine Step.gate_alloc (t := 41) rfl ?_); refine Step.freshAlloc rfl rfl (alloc_agg zero_inst) ?_; intro g1 w1 b hg hb; have ST := Lib.hid (S1.made b hg hb); clear b hg hb)
          | ((with_reducible refine Step.gate_store (t := 3) rfl ?_); refine Step.store ST.out.one rfl rfl rfl rfl rfl pl_int rfl rfl ?_; intro w3 nb m; have st_ := Lib.hid (ST.out.set1 nb m); clear ST nb m; have ST := st_)
          | ((with_reducible refine Step.gate_store (t := 4) rfl ?_); refine Step.store ST.out.one rfl rfl rfl rfl rfl pl_bool rfl rfl ?_; intro w3 nb m; have st_ := Lib.hid (ST.out.set1 nb m); clear ST nb m; have ST := st_)
          | ((with_reducible refine Step.gate_store (t := 41) rfl ?_); refine Step.storeAll ST.out.one rfl rfl rfl rfl rfl size_inst rfl rfl ?_; intro w3 nb m; have st_ := Lib.hid (ST.out.set1 nb m); clear ST nb m; have ST := st_)
          | ((with_reducible refine Step.gate_load (t := 3) rfl ?_); refine Step.load ST.out.one rfl rfl rfl pl_int rfl ?_)
          | ((with_reducible refine Step.gate_load (t := 4) rfl ?_); refine Step.load ST.out.one rfl rfl rfl pl_bool rfl ?_)
          | ((with_reducible refine Step.gate_load (t := 41) rfl ?_); refine Step.loadAll ST.out.one rfl rfl rfl Try.underlying41 rfl size_inst ?_))
        refine bodyPost_ret (results_row_tmp rfl _ _ g1 _ _ _ rfl ST.out.one Try.underlying41 rfl size_inst) rfl ⟨rfl, ST.out.below⟩
    · rw [show sysF 0 s rd rs1 rs2 m = (none : Option Ins) from by simp [sysF, csL, pk, h9]]
      go_enter Try.func32, Try.ntmps32
      go_wp2_with (first
        | (go_at_call 25; (with_reducible refine (T0.out _).mono ?_); rintro e w' ⟨rfl, hb⟩; (try (have pb_ := Lib.hid (PB.out.below hb); clear PB; have PB := pb_)); have st_ := Lib.hid (ST.out.call hb); clear ST hb; have ST := st_)
        | ((with_reducible refine Step.gate_alloc (t := 41) rfl ?_); refine Step.freshAlloc rfl rfl (alloc_agg zero_inst) ?_; intro g1 w1 b hg hb; have ST := Lib.hid (S1.made b hg hb); clear b hg hb)
        | ((with_reducible refine Step.gate_store (t := 3) rfl ?_); refine Step.store ST.out.one rfl rfl rfl rfl rfl pl_int rfl rfl ?_; intro w3 nb m; have st_ := Lib.hid (ST.out.set1 nb m); clear ST nb m; have ST := st_)
        | ((with_reducible refine Step.gate_store (t := 4) rfl ?_); refine Step.store ST.out.one rfl rfl rfl rfl rfl pl_bool rfl rfl ?_; intro w3 nb m; have st_ := Lib.hid (ST.out.set1 nb m); clear ST nb m; have ST := st_)
        | ((with_reducible refine Step.gate_store (t := 41) rfl ?_); refine Step.storeAll ST.out.one rfl rfl rfl rfl rfl size_inst rfl rfl ?_; intro w3 nb m; have st_ := Lib.hid (ST.out.set1 nb m); clear ST nb m; have ST := st_)
        | ((with_reducible refine Step.gate_load (t := 3) rfl ?_); refine Step.load ST.out.one rfl rfl rfl pl_int rfl ?_)
        | ((with_reducible refine Step.gate_load (t := 4) rfl ?_); refine Step.load ST.out.one rfl rfl rfl pl_bool rfl ?_)
        | ((with_reducible refine Step.gate_load (t := 41) rfl ?_); refine Step.loadAll ST.out.one rfl rfl rfl Try.underlying41 rfl size_inst ?_))
      refine bodyPost_ret (results_row_tmp rfl _ _ g1 _ _ _ rfl ST.out.one Try.underlying41 rfl size_inst) rfl ⟨rfl, ST.out.below⟩
  · subst h
    clear hx
    rw [show sysF 1 s rd rs1 rs2 m = (some ⟨13, 1, rd, rs1, 0, m, 0, false⟩ : Option Ins) from by simp [sysF, csL, pk]]
    go_enter Try.func32, Try.ntmps32
    go_wp2_with (first
      | (go_at_call 25; (with_reducible refine (T0.out _).mono ?_); rintro e w' ⟨rfl, hb⟩; (try (have pb_ := Lib.hid (PB.out.below hb); clear PB; have PB := pb_)); have st_ := Lib.hid (ST.out.call hb); clear ST hb; have ST := st_)
      | ((with_reducible refine Step.gate_alloc (t := 41) rfl ?_); refine Step.freshAlloc rfl rfl (alloc_agg zero_inst) ?_; intro g1 w1 b hg hb; have ST := Lib.hid (S1.made b hg hb); clear b hg hb)
      | ((with_reducible refine Step.gate_store (t := 3) rfl ?_); refine Step.store ST.out.one rfl rfl rfl rfl rfl pl_int rfl rfl ?_; intro w3 nb m; have st_ := Lib.hid (ST.out.set1 nb m); clear ST nb m; have ST := st_)
      | ((with_reducible refine Step.gate_store (t := 4) rfl ?_); refine Step.store ST.out.one rfl rfl rfl rfl rfl pl_bool rfl rfl ?_; intro w3 nb m; have st_ := Lib.hid (ST.out.set1 nb m); clear ST nb m; have ST := st_)
      | ((with_reducible refine Step.gate_store (t := 41) rfl ?_); refine Step.storeAll ST.out.one rfl rfl rfl rfl rfl size_inst rfl rfl ?_; intro w3 nb m; have st_ := Lib.hid (ST.out.set1 nb m); clear ST nb m; have ST := st_)
      | ((with_reducible refine Step.gate_load (t := 3) rfl ?_); refine Step.load ST.out.one rfl rfl rfl pl_int rfl ?_)
      | ((with_reducible refine Step.gate_load (t := 4) rfl ?_); refine Step.load ST.out.one rfl rfl rfl pl_bool rfl ?_)
      | ((with_reducible refine Step.gate_load (t := 41) rfl ?_); refine Step.loadAll ST.out.one rfl rfl rfl Try.underlying41 rfl size_inst ?_))
    refine bodyPost_ret (results_row_tmp rfl _ _ g1 _ _ _ rfl ST.out.one Try.underlying41 rfl size_inst) rfl ⟨rfl, ST.out.below⟩
  · subst h
    clear hx
    rw [show sysF 2 s rd rs1 rs2 m = (some ⟨13, 2, rd, rs1, 0, m, 0, false⟩ : Option Ins) from by simp [sysF, csL, pk]]
    go_enter Try.func32, Try.ntmps32
    go_wp2_with (first
      | (go_at_call 25; (with_reducible refine (T0.out _).mono ?_); rintro e w' ⟨rfl, hb⟩; (try (have pb_ := Lib.hid (PB.out.below hb); clear PB; have PB := pb_)); have st_ := Lib.hid (ST.out.call hb); clear ST hb; have ST := st_)
      | ((with_reducible refine Step.gate_alloc (t := 41) rfl ?_); refine Step.freshAlloc rfl rfl (alloc_agg zero_inst) ?_; intro g1 w1 b hg hb; have ST := Lib.hid (S1.made b hg hb); clear b hg hb)
      | ((with_reducible refine Step.gate_store (t := 3) rfl ?_); refine Step.store ST.out.one rfl rfl rfl rfl rfl pl_int rfl rfl ?_; intro w3 nb m; have st_ := Lib.hid (ST.out.set1 nb m); clear ST nb m; have ST := st_)
      | ((with_reducible refine Step.gate_store (t := 4) rfl ?_); refine Step.store ST.out.one rfl rfl rfl rfl rfl pl_bool rfl rfl ?_; intro w3 nb m; have st_ := Lib.hid (ST.out.set1 nb m); clear ST nb m; have ST := st_)
      | ((with_reducible refine Step.gate_store (t := 41) rfl ?_); refine Step.storeAll ST.out.one rfl rfl rfl rfl rfl size_inst rfl rfl ?_; intro w3 nb m; have st_ := Lib.hid (ST.out.set1 nb m); clear ST nb m; have ST := st_)
      | ((with_reducible refine Step.gate_load (t := 3) rfl ?_); refine Step.load ST.out.one rfl rfl rfl pl_int rfl ?_)
      | ((with_reducible refine Step.gate_load (t := 4) rfl ?_); refine Step.load ST.out.one rfl rfl rfl pl_bool rfl ?_)
      | ((with_reducible refine Step.gate_load (t := 41) rfl ?_); refine Step.loadAll ST.out.one rfl rfl rfl Try.underlying41 rfl size_inst ?_))
    refine bodyPost_ret (results_row_tmp rfl _ _ g1 _ _ _ rfl ST.out.one Try.underlying41 rfl size_inst) rfl ⟨rfl, ST.out.below⟩
  · subst h
    clear hx
    rw [show sysF 3 s rd rs1 rs2 m = (some ⟨13, 3, rd, rs1, 0, m, 0, false⟩ : Option Ins) from by simp [sysF, csL, pk]]
    go_enter Try.func32, Try.ntmps32
    go_wp2_with (first
      | (go_at_call 25; (with_reducible refine (T0.out _).mono ?_); rintro e w' ⟨rfl, hb⟩; (try (have pb_ := Lib.hid (PB.out.below hb); clear PB; have PB := pb_)); have st_ := Lib.hid (ST.out.call hb); clear ST hb; have ST := st_)
      | ((with_reducible refine Step.gate_alloc (t := 41) rfl ?_); refine Step.freshAlloc rfl rfl (alloc_agg zero_inst) ?_; intro g1 w1 b hg hb; have ST := Lib.hid (S1.made b hg hb); clear b hg hb)
      | ((with_reducible refine Step.gate_store (t := 3) rfl ?_); refine Step.store ST.out.one rfl rfl rfl rfl rfl pl_int rfl rfl ?_; intro w3 nb m; have st_ := Lib.hid (ST.out.set1 nb m); clear ST nb m; have ST := st_)
      | ((with_reducible refine Step.gate_store (t := 4) rfl ?_); refine Step.store ST.out.one rfl rfl rfl rfl rfl pl_bool rfl rfl ?_; intro w3 nb m; have st_ := Lib.hid (ST.out.set1 nb m); clear ST nb m; have ST := st_)
      | ((with_reducible refine Step.gate_store (t := 41) rfl ?_); refine Step.storeAll ST.out.one rfl rfl rfl rfl rfl size_inst rfl rfl ?_; intro w3 nb m; have st_ := Lib.hid (ST.out.set1 nb m); clear ST nb m; have ST := st_)
      | ((with_reducible refine Step.gate_load (t := 3) rfl ?_); refine Step.load ST.out.one rfl rfl rfl pl_int rfl ?_)
      | ((with_reducible refine Step.gate_load (t := 4) rfl ?_); refine Step.load ST.out.one rfl rfl rfl pl_bool rfl ?_)
      | ((with_reducible refine Step.gate_load (t := 41) rfl ?_); refine Step.loadAll ST.out.one rfl rfl rfl Try.underlying41 rfl size_inst ?_))
    refine bodyPost_ret (results_row_tmp rfl _ _ g1 _ _ _ rfl ST.out.one Try.underlying41 rfl size_inst) rfl ⟨rfl, ST.out.below⟩
  · subst h
    clear hx
    rw [show sysF 4 s rd rs1 rs2 m = (none : Option Ins) from by simp [sysF, csL, pk]]
    go_enter Try.func32, Try.ntmps32
    go_wp2_with (first
      | (go_at_call 25; (with_reducible refine (T0.out _).mono ?_); rintro e w' ⟨rfl, hb⟩; (try (have pb_ := Lib.hid (PB.out.below hb); clear PB; have PB := pb_)); have st_ := Lib.hid (ST.out.call hb); clear ST hb; have ST := st_)
      | ((with_reducible refine Step.gate_alloc (t := 41) rfl ?_); refine Step.freshAlloc rfl rfl (alloc_agg zero_inst) ?_; intro g1 w1 b hg hb; have ST := Lib.hid (S1.made b hg hb); clear b hg hb)
      | ((with_reducible refine Step.gate_store (t := 3) rfl ?_); refine Step.store ST.out.one rfl rfl rfl rfl rfl pl_int rfl rfl ?_; intro w3 nb m; have st_ := Lib.hid (ST.out.set1 nb m); clear ST nb m; have ST := st_)
      | ((with_reducible refine Step.gate_store (t := 4) rfl ?_); refine Step.store ST.out.one rfl rfl rfl rfl rfl pl_bool rfl rfl ?_; intro w3 nb m; have st_ := Lib.hid (ST.out.set1 nb m); clear ST nb m; have ST := st_)
      | ((with_reducible refine Step.gate_store (t := 41) rfl ?_); refine Step.storeAll ST.out.one rfl rfl rfl rfl rfl size_inst rfl rfl ?_; intro w3 nb m; have st_ := Lib.hid (ST.out.set1 nb m); clear ST nb m; have ST := st_)
      | ((with_reducible refine Step.gate_load (t := 3) rfl ?_); refine Step.load ST.out.one rfl rfl rfl pl_int rfl ?_)
      | ((with_reducible refine Step.gate_load (t := 4) rfl ?_); refine Step.load ST.out.one rfl rfl rfl pl_bool rfl ?_)
      | ((with_reducible refine Step.gate_load (t := 41) rfl ?_); refine Step.loadAll ST.out.one rfl rfl rfl Try.underlying41 rfl size_inst ?_))
    refine bodyPost_ret (results_row_tmp rfl _ _ g1 _ _ _ rfl ST.out.one Try.underlying41 rfl size_inst) rfl ⟨rfl, ST.out.below⟩
  · subst h
    clear hx
    rw [show sysF 5 s rd rs1 rs2 m = (some ⟨14, 1, rd, rs1, 0, m, 0, false⟩ : Option Ins) from by simp [sysF, csL, pk]]
    go_enter Try.func32, Try.ntmps32
    go_wp2_with (first
      | (go_at_call 25; (with_reducible refine (T0.out _).mono ?_); rintro e w' ⟨rfl, hb⟩; (try (have pb_ := Lib.hid (PB.out.below hb); clear PB; have PB := pb_)); have st_ := Lib.hid (ST.out.call hb); clear ST hb; have ST := st_)
      | ((with_reducible refine Step.gate_alloc (t := 41) rfl ?_); refine Step.freshAlloc rfl rfl (alloc_agg zero_inst) ?_; intro g1 w1 b hg hb; have ST := Lib.hid (S1.made b hg hb); clear b hg hb)
      | ((with_reducible refine Step.gate_store (t := 3) rfl ?_); refine Step.store ST.out.one rfl rfl rfl rfl rfl pl_int rfl rfl ?_; intro w3 nb m; have st_ := Lib.hid (ST.out.set1 nb m); clear ST nb m; have ST := st_)
      | ((with_reducible refine Step.gate_store (t := 4) rfl ?_); refine Step.store ST.out.one rfl rfl rfl rfl rfl pl_bool rfl rfl ?_; intro w3 nb m; have st_ := Lib.hid (ST.out.set1 nb m); clear ST nb m; have ST := st_)
      | ((with_reducible refine Step.gate_store (t := 41) rfl ?_); refine Step.storeAll ST.out.one rfl rfl rfl rfl rfl size_inst rfl rfl ?_; intro w3 nb m; have st_ := Lib.hid (ST.out.set1 nb m); clear ST nb m; have ST := st_)
      | ((with_reducible refine Step.gate_load (t := 3) rfl ?_); refine Step.load ST.out.one rfl rfl rfl pl_int rfl ?_)
      | ((with_reducible refine Step.gate_load (t := 4) rfl ?_); refine Step.load ST.out.one rfl rfl rfl pl_bool rfl ?_)
      | ((with_reducible refine Step.gate_load (t := 41) rfl ?_); refine Step.loadAll ST.out.one rfl rfl rfl Try.underlying41 rfl size_inst ?_))
    refine bodyPost_ret (results_row_tmp rfl _ _ g1 _ _ _ rfl ST.out.one Try.underlying41 rfl size_inst) rfl ⟨rfl, ST.out.below⟩
  · subst h
    clear hx
    rw [show sysF 6 s rd rs1 rs2 m = (some ⟨14, 2, rd, rs1, 0, m, 0, false⟩ : Option Ins) from by simp [sysF, csL, pk]]
    go_enter Try.func32, Try.ntmps32
    go_wp2_with (first
      | (go_at_call 25; (with_reducible refine (T0.out _).mono ?_); rintro e w' ⟨rfl, hb⟩; (try (have pb_ := Lib.hid (PB.out.below hb); clear PB; have PB := pb_)); have st_ := Lib.hid (ST.out.call hb); clear ST hb; have ST := st_)
      | ((with_reducible refine Step.gate_alloc (t := 41) rfl ?_); refine Step.freshAlloc rfl rfl (alloc_agg zero_inst) ?_; intro g1 w1 b hg hb; have ST := Lib.hid (S1.made b hg hb); clear b hg hb)
      | ((with_reducible refine Step.gate_store (t := 3) rfl ?_); refine Step.store ST.out.one rfl rfl rfl rfl rfl pl_int rfl rfl ?_; intro w3 nb m; have st_ := Lib.hid (ST.out.set1 nb m); clear ST nb m; have ST := st_)
      | ((with_reducible refine Step.gate_store (t := 4) rfl ?_); refine Step.store ST.out.one rfl rfl rfl rfl rfl pl_bool rfl rfl ?_; intro w3 nb m; have st_ := Lib.hid (ST.out.set1 nb m); clear ST nb m; have ST := st_)
      | ((with_reducible refine Step.gate_store (t := 41) rfl ?_); refine Step.storeAll ST.out.one rfl rfl rfl rfl rfl size_inst rfl rfl ?_; intro w3 nb m; have st_ := Lib.hid (ST.out.set1 nb m); clear ST nb m; have ST := st_)
      | ((with_reducible refine Step.gate_load (t := 3) rfl ?_); refine Step.load ST.out.one rfl rfl rfl pl_int rfl ?_)
      | ((with_reducible refine Step.gate_load (t := 4) rfl ?_); refine Step.load ST.out.one rfl rfl rfl pl_bool rfl ?_)
      | ((with_reducible refine Step.gate_load (t := 41) rfl ?_); refine Step.loadAll ST.out.one rfl rfl rfl Try.underlying41 rfl size_inst ?_))
    refine bodyPost_ret (results_row_tmp rfl _ _ g1 _ _ _ rfl ST.out.one Try.underlying41 rfl size_inst) rfl ⟨rfl, ST.out.below⟩
  · subst h
    clear hx
    rw [show sysF 7 s rd rs1 rs2 m = (some ⟨14, 3, rd, rs1, 0, m, 0, false⟩ : Option Ins) from by simp [sysF, csL, pk]]
    go_enter Try.func32, Try.ntmps32
    go_wp2_with (first
      | (go_at_call 25; (with_reducible refine (T0.out _).mono ?_); rintro e w' ⟨rfl, hb⟩; (try (have pb_ := Lib.hid (PB.out.below hb); clear PB; have PB := pb_)); have st_ := Lib.hid (ST.out.call hb); clear ST hb; have ST := st_)
      | ((with_reducible refine Step.gate_alloc (t := 41) rfl ?_); refine Step.freshAlloc rfl rfl (alloc_agg zero_inst) ?_; intro g1 w1 b hg hb; have ST := Lib.hid (S1.made b hg hb); clear b hg hb)
      | ((with_reducible refine Step.gate_store (t := 3) rfl ?_); refine Step.store ST.out.one rfl rfl rfl rfl rfl pl_int rfl rfl ?_; intro w3 nb m; have st_ := Lib.hid (ST.out.set1 nb m); clear ST nb m; have ST := st_)
      | ((with_reducible refine Step.gate_store (t := 4) rfl ?_); refine Step.store ST.out.one rfl rfl rfl rfl rfl pl_bool rfl rfl ?_; intro w3 nb m; have st_ := Lib.hid (ST.out.set1 nb m); clear ST nb m; have ST := st_)
      | ((with_reducible refine Step.gate_store (t := 41) rfl ?_); refine Step.storeAll ST.out.one rfl rfl rfl rfl rfl size_inst rfl rfl ?_; intro w3 nb m; have st_ := Lib.hid (ST.out.set1 nb m); clear ST nb m; have ST := st_)
      | ((with_reducible refine Step.gate_load (t := 3) rfl ?_); refine Step.load ST.out.one rfl rfl rfl pl_int rfl ?_)
      | ((with_reducible refine Step.gate_load (t := 4) rfl ?_); refine Step.load ST.out.one rfl rfl rfl pl_bool rfl ?_)
      | ((with_reducible refine Step.gate_load (t := 41) rfl ?_); refine Step.loadAll ST.out.one rfl rfl rfl Try.underlying41 rfl size_inst ?_))
    refine bodyPost_ret (results_row_tmp rfl _ _ g1 _ _ _ rfl ST.out.one Try.underlying41 rfl size_inst) rfl ⟨rfl, ST.out.below⟩
theorem ratomic_no (a x rd rs1 rs2 : Int) (h2 : x ≠ 2) (h3 : x ≠ 3) (w : World) : Calls Try.prog 33 #[.int .u32 a, .int .i64 x, .int .i64 rd, .int .i64 rs1, .int .i64 rs2] w fun e w' => e = .returned (told none) ∧ Below w.heap.size w w' := by
  have c2 : (x != 2) = true := bne_iff_ne.2 h2
  have c3 : (x != 3) = true := bne_iff_ne.2 h3
  go_enter Try.func33, Try.ntmps33
  go_wp2_with (first
    | ((with_reducible refine Step.gate_alloc (t := 41) rfl ?_); refine Step.freshAlloc rfl rfl (alloc_agg zero_inst) ?_; intro g1 w1 b hg hb; have ST := Lib.hid (S1.made b hg hb); clear b hg hb)
    | ((with_reducible refine Step.gate_store (t := 3) rfl ?_); refine Step.store ST.out.one rfl rfl rfl rfl rfl pl_int rfl rfl ?_; intro w3 nb m; have st_ := Lib.hid (ST.out.set1 nb m); clear ST nb m; have ST := st_)
    | ((with_reducible refine Step.gate_store (t := 4) rfl ?_); refine Step.store ST.out.one rfl rfl rfl rfl rfl pl_bool rfl rfl ?_; intro w3 nb m; have st_ := Lib.hid (ST.out.set1 nb m); clear ST nb m; have ST := st_)
    | ((with_reducible refine Step.gate_store (t := 41) rfl ?_); refine Step.storeAll ST.out.one rfl rfl rfl rfl rfl size_inst rfl rfl ?_; intro w3 nb m; have st_ := Lib.hid (ST.out.set1 nb m); clear ST nb m; have ST := st_)
    | ((with_reducible refine Step.gate_load (t := 3) rfl ?_); refine Step.load ST.out.one rfl rfl rfl pl_int rfl ?_)
    | ((with_reducible refine Step.gate_load (t := 4) rfl ?_); refine Step.load ST.out.one rfl rfl rfl pl_bool rfl ?_)
    | ((with_reducible refine Step.gate_load (t := 41) rfl ?_); refine Step.loadAll ST.out.one rfl rfl rfl Try.underlying41 rfl size_inst ?_))
  refine bodyPost_ret (results_row_tmp rfl _ _ g1 _ _ _ rfl ST.out.one Try.underlying41 rfl size_inst) rfl ⟨rfl, ST.out.below⟩
def fvL : List Int := ([1, 0, 4, 12, 8, 16, 20, 24, 28] : List Int)
/-- The atomics over their fields. -/
def atE (sz f rd rs1 rs2 : Int) : Option Ins := if (atF f rs2).2.2 then some ⟨(atF f rs2).1, (atF f rs2).2.1, rd, rs1, rs2, 0, sz, false⟩ else none
theorem fv_hit : ∀ k : Fin 9, ∀ rs2 : Int, atF (fvL.getD k.val 0) rs2 = (17, (k.val : Int) + 1, true) := by
  intro k rs2
  obtain ⟨k, hk⟩ := k
  have : k = 0 ∨ k = 1 ∨ k = 2 ∨ k = 3 ∨ k = 4 ∨ k = 5 ∨ k = 6 ∨ k = 7 ∨ k = 8 := by omega
  rcases this with h | h | h | h | h | h | h | h | h <;> subst h <;> rfl
theorem fv_miss (f rs2 : Int) (hf : 0 ≤ f ∧ f < 32) (h2 : f = 2 → rs2 ≠ 0) (h3 : f ≠ 3) (h : ∀ k, k < 9 → fvL.getD k 0 ≠ f) : (atF f rs2).2.2 = false := by
  have e0 := h 0 (by decide)
  have e1 := h 1 (by decide)
  have e2 := h 2 (by decide)
  have e3 := h 3 (by decide)
  have e4 := h 4 (by decide)
  have e5 := h 5 (by decide)
  have e6 := h 6 (by decide)
  have e7 := h 7 (by decide)
  have e8 := h 8 (by decide)
  simp only [fvL, List.getD_cons_zero, List.getD_cons_succ] at e0 e1 e2 e3 e4 e5 e6 e7 e8
  unfold atF
  by_cases h20 : f = 2
  · rw [if_pos h20]
    exact beq_eq_false_iff_ne.2 (h2 h20)
  · rw [if_neg h20, if_neg h3, if_neg (fun h => e0 h.symm), if_neg (by omega)]
set_option maxHeartbeats 2000000 in
theorem ratomic_2 (a rd rs1 rs2 : Int) (ha : W32 a) (w : World) : Calls Try.prog 33 #[.int .u32 a, .int .i64 2, .int .i64 rd, .int .i64 rs1, .int .i64 rs2] w fun e w' => e = .returned (told (atE 4 (fd a 31 27) rd rs1 rs2)) ∧ Below w.heap.size w w' := by
  have T0 := Lib.hid (fun w => calls_below (rbits_any a 31 27 31 27 ha rfl rfl (by decide) (by decide) w))
  have bf := fd_lit (a := a) (h := 31) (l := 27) (n := 32) rfl
  generalize fd a 31 27 = f at *
  by_cases h3 : f = 3
  · subst h3
    rw [show atE 4 3 rd rs1 rs2 = (some ⟨16, 0, rd, rs1, rs2, 0, 4, false⟩ : Option Ins) from by simp [atE, atF]]
    clear bf
    go_enter Try.func33, Try.ntmps33
    go_wp2_with (first
      | (go_at_call 25; (with_reducible refine (T0.out _).mono ?_); rintro e w' ⟨rfl, hb⟩; (try (have pb_ := Lib.hid (PB.out.below hb); clear PB; have PB := pb_)); have st_ := Lib.hid (ST.out.call hb); clear ST hb; have ST := st_)
      | ((with_reducible refine Step.gate_alloc (t := 41) rfl ?_); refine Step.freshAlloc rfl rfl (alloc_agg zero_inst) ?_; intro g1 w1 b hg hb; have ST := Lib.hid (S1.made b hg hb); clear b hg hb)
      | ((with_reducible refine Step.gate_build (t := 57) rfl ?_); refine Step.freshSlice (cs := #[.int .i64 1, .int .i64 0, .int .i64 4, .int .i64 12, .int .i64 8, .int .i64 16, .int .i64 20, .int .i64 24, .int .i64 28]) (T := 3) (n := 9) (m := 9) rfl ?hr ?_; (case hr => first | (go_simp; done) | (go_simp; rfl)); intro g9 w1 b hg hb; have PB := Lib.hid (show Blk w1 g9 (Enc.ints ([1, 0, 4, 12, 8, 16, 20, 24, 28] : List Int)) _ from b); have st_ := Lib.hid (ST.out.call hb); clear ST b hb hg; have ST := st_)
      | ((with_reducible refine Step.gate_store (t := 3) rfl ?_); refine Step.store ST.out.one rfl rfl rfl rfl rfl pl_int rfl rfl ?_; intro w3 nb m; have st_ := Lib.hid (ST.out.set1 nb m); clear ST nb m; have ST := st_)
      | ((with_reducible refine Step.gate_store (t := 4) rfl ?_); refine Step.store ST.out.one rfl rfl rfl rfl rfl pl_bool rfl rfl ?_; intro w3 nb m; have st_ := Lib.hid (ST.out.set1 nb m); clear ST nb m; have ST := st_)
      | ((with_reducible refine Step.gate_store (t := 41) rfl ?_); refine Step.storeAll ST.out.one rfl rfl rfl rfl rfl size_inst rfl rfl ?_; intro w3 nb m; have st_ := Lib.hid (ST.out.set1 nb m); clear ST nb m; have ST := st_)
      | ((with_reducible refine Step.gate_load (t := 3) rfl ?_); refine Step.load ST.out.one rfl rfl rfl pl_int rfl ?_)
      | ((with_reducible refine Step.gate_load (t := 4) rfl ?_); refine Step.load ST.out.one rfl rfl rfl pl_bool rfl ?_)
      | ((with_reducible refine Step.gate_load (t := 41) rfl ?_); refine Step.loadAll ST.out.one rfl rfl rfl Try.underlying41 rfl size_inst ?_))
    refine bodyPost_ret (results_row_tmp rfl _ _ g1 _ _ _ rfl ST.out.one Try.underlying41 rfl size_inst) rfl ⟨rfl, ST.out.below⟩
  by_cases h2 : f = 2 ∧ rs2 = 0
  · obtain ⟨h2, h0⟩ := h2
    subst h2 h0
    rw [show atE 4 2 rd rs1 0 = (some ⟨15, 0, rd, rs1, 0, 0, 4, false⟩ : Option Ins) from by simp [atE, atF]]
    clear bf
    go_enter Try.func33, Try.ntmps33
    go_wp2_with (first
      | (go_at_call 25; (with_reducible refine (T0.out _).mono ?_); rintro e w' ⟨rfl, hb⟩; (try (have pb_ := Lib.hid (PB.out.below hb); clear PB; have PB := pb_)); have st_ := Lib.hid (ST.out.call hb); clear ST hb; have ST := st_)
      | ((with_reducible refine Step.gate_alloc (t := 41) rfl ?_); refine Step.freshAlloc rfl rfl (alloc_agg zero_inst) ?_; intro g1 w1 b hg hb; have ST := Lib.hid (S1.made b hg hb); clear b hg hb)
      | ((with_reducible refine Step.gate_build (t := 57) rfl ?_); refine Step.freshSlice (cs := #[.int .i64 1, .int .i64 0, .int .i64 4, .int .i64 12, .int .i64 8, .int .i64 16, .int .i64 20, .int .i64 24, .int .i64 28]) (T := 3) (n := 9) (m := 9) rfl ?hr ?_; (case hr => first | (go_simp; done) | (go_simp; rfl)); intro g9 w1 b hg hb; have PB := Lib.hid (show Blk w1 g9 (Enc.ints ([1, 0, 4, 12, 8, 16, 20, 24, 28] : List Int)) _ from b); have st_ := Lib.hid (ST.out.call hb); clear ST b hb hg; have ST := st_)
      | ((with_reducible refine Step.gate_store (t := 3) rfl ?_); refine Step.store ST.out.one rfl rfl rfl rfl rfl pl_int rfl rfl ?_; intro w3 nb m; have st_ := Lib.hid (ST.out.set1 nb m); clear ST nb m; have ST := st_)
      | ((with_reducible refine Step.gate_store (t := 4) rfl ?_); refine Step.store ST.out.one rfl rfl rfl rfl rfl pl_bool rfl rfl ?_; intro w3 nb m; have st_ := Lib.hid (ST.out.set1 nb m); clear ST nb m; have ST := st_)
      | ((with_reducible refine Step.gate_store (t := 41) rfl ?_); refine Step.storeAll ST.out.one rfl rfl rfl rfl rfl size_inst rfl rfl ?_; intro w3 nb m; have st_ := Lib.hid (ST.out.set1 nb m); clear ST nb m; have ST := st_)
      | ((with_reducible refine Step.gate_load (t := 3) rfl ?_); refine Step.load ST.out.one rfl rfl rfl pl_int rfl ?_)
      | ((with_reducible refine Step.gate_load (t := 4) rfl ?_); refine Step.load ST.out.one rfl rfl rfl pl_bool rfl ?_)
      | ((with_reducible refine Step.gate_load (t := 41) rfl ?_); refine Step.loadAll ST.out.one rfl rfl rfl Try.underlying41 rfl size_inst ?_))
    refine bodyPost_ret (results_row_tmp rfl _ _ g1 _ _ _ rfl ST.out.one Try.underlying41 rfl size_inst) rfl ⟨rfl, ST.out.below⟩
  have h2' : f = 2 → rs2 ≠ 0 := fun h h' => h2 ⟨h, h'⟩
  have c3 : (f == 3) = false := beq_eq_false_iff_ne.2 h3
  have key : ∀ b : Bool, (f == 2) = b → (b = true → rs2 ≠ 0) := fun b h hb => h2' (by subst hb; exact eq_of_beq h)
  by_cases h20 : f = 2
  · have c2 : (f == 2) = true := beq_iff_eq.2 h20
    have c0 : (rs2 == 0) = false := beq_eq_false_iff_ne.2 (h2' h20)
    clear key
    go_enter Try.func33, Try.ntmps33
    go_wp2_with (first
      | (go_at_call 25; (with_reducible refine (T0.out _).mono ?_); rintro e w' ⟨rfl, hb⟩; (try (have pb_ := Lib.hid (PB.out.below hb); clear PB; have PB := pb_)); have st_ := Lib.hid (ST.out.call hb); clear ST hb; have ST := st_)
      | ((with_reducible refine Step.gate_alloc (t := 41) rfl ?_); refine Step.freshAlloc rfl rfl (alloc_agg zero_inst) ?_; intro g1 w1 b hg hb; have ST := Lib.hid (S1.made b hg hb); clear b hg hb)
      | ((with_reducible refine Step.gate_build (t := 57) rfl ?_); refine Step.freshSlice (cs := #[.int .i64 1, .int .i64 0, .int .i64 4, .int .i64 12, .int .i64 8, .int .i64 16, .int .i64 20, .int .i64 24, .int .i64 28]) (T := 3) (n := 9) (m := 9) rfl ?hr ?_; (case hr => first | (go_simp; done) | (go_simp; rfl)); intro g9 w1 b hg hb; have PB := Lib.hid (show Blk w1 g9 (Enc.ints ([1, 0, 4, 12, 8, 16, 20, 24, 28] : List Int)) _ from b); have st_ := Lib.hid (ST.out.call hb); clear ST b hb hg; have ST := st_)
      | ((with_reducible refine Step.gate_store (t := 3) rfl ?_); refine Step.store ST.out.one rfl rfl rfl rfl rfl pl_int rfl rfl ?_; intro w3 nb m; have st_ := Lib.hid (ST.out.set1 nb m); clear ST nb m; have ST := st_)
      | ((with_reducible refine Step.gate_store (t := 4) rfl ?_); refine Step.store ST.out.one rfl rfl rfl rfl rfl pl_bool rfl rfl ?_; intro w3 nb m; have st_ := Lib.hid (ST.out.set1 nb m); clear ST nb m; have ST := st_)
      | ((with_reducible refine Step.gate_store (t := 41) rfl ?_); refine Step.storeAll ST.out.one rfl rfl rfl rfl rfl size_inst rfl rfl ?_; intro w3 nb m; have st_ := Lib.hid (ST.out.set1 nb m); clear ST nb m; have ST := st_)
      | ((with_reducible refine Step.gate_load (t := 3) rfl ?_); refine Step.load ST.out.one rfl rfl rfl pl_int rfl ?_)
      | ((with_reducible refine Step.gate_load (t := 4) rfl ?_); refine Step.load ST.out.one rfl rfl rfl pl_bool rfl ?_)
      | ((with_reducible refine Step.gate_load (t := 41) rfl ?_); refine Step.loadAll ST.out.one rfl rfl rfl Try.underlying41 rfl size_inst ?_))
    go_loopw [15] (fun i w_ => ∃ k : Nat, k ≤ 9 ∧ i = .int .i64 k ∧ S1 w w_ 41 g1 #[.int .i64 0, .int .i64 0, .int .i64 0, .int .i64 0, .int .i64 0, .int .i64 0, .int .i64 0, .bool false] ∧ Blk w_ g9 (Enc.ints fvL) 3 ∧ ∀ j, j < k → fvL.getD j 0 ≠ f) (fun i _ => (9 - intOf i).toNat)
    case atStart => exact ⟨0, Nat.zero_le _, rfl, ST.out, PB.out, fun j h => absurd h (Nat.not_lt_zero j)⟩
    case round =>
      clear ST PB
      obtain ⟨k, hk, rfl, hS, hP, hm⟩ := hrel
      have ST := Lib.hid hS
      have PB := Lib.hid hP
      have HM := Lib.hid hm
      clear hS hP hm
      by_cases hlt : k < 9
      · have hc := (PB.out.cell k).trans (ints_at fvL k hlt)
        by_cases hv : fvL.getD k 0 = f
        · have hd : atE 4 f rd rs1 rs2 = some ⟨17, (k : Int) + 1, rd, rs1, rs2, 0, 4, false⟩ := by subst hv; unfold atE; rw [fv_hit ⟨k, hlt⟩ rs2]; rfl
          rw [hv] at hc
          clear HM h2' h2 h3 bf hv
          go_wp2_with (first
              | ((with_reducible refine Step.gate_store (t := 3) rfl ?_); refine Step.store ST.out.one rfl rfl rfl rfl rfl pl_int rfl rfl ?_; intro w3 nb m; have st_ := Lib.hid (ST.out.set1 nb m); clear ST nb m; have ST := st_)
              | ((with_reducible refine Step.gate_store (t := 4) rfl ?_); refine Step.store ST.out.one rfl rfl rfl rfl rfl pl_bool rfl rfl ?_; intro w3 nb m; have st_ := Lib.hid (ST.out.set1 nb m); clear ST nb m; have ST := st_)
              | ((with_reducible refine Step.gate_store (t := 41) rfl ?_); refine Step.storeAll ST.out.one rfl rfl rfl rfl rfl size_inst rfl rfl ?_; intro w3 nb m; have st_ := Lib.hid (ST.out.set1 nb m); clear ST nb m; have ST := st_)
              | ((with_reducible refine Step.gate_load (t := 3) rfl ?_); refine Step.load ST.out.one rfl rfl rfl pl_int rfl ?_)
              | ((with_reducible refine Step.gate_load (t := 4) rfl ?_); refine Step.load ST.out.one rfl rfl rfl pl_bool rfl ?_)
              | ((with_reducible refine Step.gate_load (t := 41) rfl ?_); refine Step.loadAll ST.out.one rfl rfl rfl Try.underlying41 rfl size_inst ?_))
          refine bodyPost_ret (results_row_tmp rfl _ _ g1 _ _ _ rfl ST.out.one Try.underlying41 rfl size_inst) rfl ⟨by rw [hd]; rfl, ST.out.below⟩
        · obtain ⟨v, hv'⟩ : ∃ v, fvL.getD k 0 = v := ⟨_, rfl⟩
          rw [hv'] at hc hv
          have cv : (v == f) = false := beq_eq_false_iff_ne.2 hv
          go_wp2
          refine ⟨⟨k + 1, by omega, by go_num, ST.out, PB.out, fun j hj => ?_⟩, by simp [intOf]; omega⟩
          by_cases e : j = k
          · subst e; rw [hv']; exact hv
          · exact HM.out j (by omega)
      · obtain rfl : k = 9 := by omega
        have hd : atE 4 f rd rs1 rs2 = none := by unfold atE; rw [fv_miss f rs2 bf h2' h3 HM.out]; rfl
        clear HM h2' h2 h3 bf
        go_wp2_with (first
            | ((with_reducible refine Step.gate_store (t := 3) rfl ?_); refine Step.store ST.out.one rfl rfl rfl rfl rfl pl_int rfl rfl ?_; intro w3 nb m; have st_ := Lib.hid (ST.out.set1 nb m); clear ST nb m; have ST := st_)
            | ((with_reducible refine Step.gate_store (t := 4) rfl ?_); refine Step.store ST.out.one rfl rfl rfl rfl rfl pl_bool rfl rfl ?_; intro w3 nb m; have st_ := Lib.hid (ST.out.set1 nb m); clear ST nb m; have ST := st_)
            | ((with_reducible refine Step.gate_store (t := 41) rfl ?_); refine Step.storeAll ST.out.one rfl rfl rfl rfl rfl size_inst rfl rfl ?_; intro w3 nb m; have st_ := Lib.hid (ST.out.set1 nb m); clear ST nb m; have ST := st_)
            | ((with_reducible refine Step.gate_load (t := 3) rfl ?_); refine Step.load ST.out.one rfl rfl rfl pl_int rfl ?_)
            | ((with_reducible refine Step.gate_load (t := 4) rfl ?_); refine Step.load ST.out.one rfl rfl rfl pl_bool rfl ?_)
            | ((with_reducible refine Step.gate_load (t := 41) rfl ?_); refine Step.loadAll ST.out.one rfl rfl rfl Try.underlying41 rfl size_inst ?_))
        refine bodyPost_ret (results_row_tmp rfl _ _ g1 _ _ _ rfl ST.out.one Try.underlying41 rfl size_inst) rfl ⟨by rw [hd]; rfl, ST.out.below⟩
  have c2 : (f == 2) = false := beq_eq_false_iff_ne.2 h20
  clear key
  go_enter Try.func33, Try.ntmps33
  go_wp2_with (first
    | (go_at_call 25; (with_reducible refine (T0.out _).mono ?_); rintro e w' ⟨rfl, hb⟩; (try (have pb_ := Lib.hid (PB.out.below hb); clear PB; have PB := pb_)); have st_ := Lib.hid (ST.out.call hb); clear ST hb; have ST := st_)
    | ((with_reducible refine Step.gate_alloc (t := 41) rfl ?_); refine Step.freshAlloc rfl rfl (alloc_agg zero_inst) ?_; intro g1 w1 b hg hb; have ST := Lib.hid (S1.made b hg hb); clear b hg hb)
    | ((with_reducible refine Step.gate_build (t := 57) rfl ?_); refine Step.freshSlice (cs := #[.int .i64 1, .int .i64 0, .int .i64 4, .int .i64 12, .int .i64 8, .int .i64 16, .int .i64 20, .int .i64 24, .int .i64 28]) (T := 3) (n := 9) (m := 9) rfl ?hr ?_; (case hr => first | (go_simp; done) | (go_simp; rfl)); intro g9 w1 b hg hb; have PB := Lib.hid (show Blk w1 g9 (Enc.ints ([1, 0, 4, 12, 8, 16, 20, 24, 28] : List Int)) _ from b); have st_ := Lib.hid (ST.out.call hb); clear ST b hb hg; have ST := st_)
    | ((with_reducible refine Step.gate_store (t := 3) rfl ?_); refine Step.store ST.out.one rfl rfl rfl rfl rfl pl_int rfl rfl ?_; intro w3 nb m; have st_ := Lib.hid (ST.out.set1 nb m); clear ST nb m; have ST := st_)
    | ((with_reducible refine Step.gate_store (t := 4) rfl ?_); refine Step.store ST.out.one rfl rfl rfl rfl rfl pl_bool rfl rfl ?_; intro w3 nb m; have st_ := Lib.hid (ST.out.set1 nb m); clear ST nb m; have ST := st_)
    | ((with_reducible refine Step.gate_store (t := 41) rfl ?_); refine Step.storeAll ST.out.one rfl rfl rfl rfl rfl size_inst rfl rfl ?_; intro w3 nb m; have st_ := Lib.hid (ST.out.set1 nb m); clear ST nb m; have ST := st_)
    | ((with_reducible refine Step.gate_load (t := 3) rfl ?_); refine Step.load ST.out.one rfl rfl rfl pl_int rfl ?_)
    | ((with_reducible refine Step.gate_load (t := 4) rfl ?_); refine Step.load ST.out.one rfl rfl rfl pl_bool rfl ?_)
    | ((with_reducible refine Step.gate_load (t := 41) rfl ?_); refine Step.loadAll ST.out.one rfl rfl rfl Try.underlying41 rfl size_inst ?_))
  go_loopw [15] (fun i w_ => ∃ k : Nat, k ≤ 9 ∧ i = .int .i64 k ∧ S1 w w_ 41 g1 #[.int .i64 0, .int .i64 0, .int .i64 0, .int .i64 0, .int .i64 0, .int .i64 0, .int .i64 0, .bool false] ∧ Blk w_ g9 (Enc.ints fvL) 3 ∧ ∀ j, j < k → fvL.getD j 0 ≠ f) (fun i _ => (9 - intOf i).toNat)
  case atStart => exact ⟨0, Nat.zero_le _, rfl, ST.out, PB.out, fun j h => absurd h (Nat.not_lt_zero j)⟩
  case round =>
    clear ST PB
    obtain ⟨k, hk, rfl, hS, hP, hm⟩ := hrel
    have ST := Lib.hid hS
    have PB := Lib.hid hP
    have HM := Lib.hid hm
    clear hS hP hm
    by_cases hlt : k < 9
    · have hc := (PB.out.cell k).trans (ints_at fvL k hlt)
      by_cases hv : fvL.getD k 0 = f
      · have hd : atE 4 f rd rs1 rs2 = some ⟨17, (k : Int) + 1, rd, rs1, rs2, 0, 4, false⟩ := by subst hv; unfold atE; rw [fv_hit ⟨k, hlt⟩ rs2]; rfl
        rw [hv] at hc
        clear HM h2' h2 h3 bf hv
        go_wp2_with (first
            | ((with_reducible refine Step.gate_store (t := 3) rfl ?_); refine Step.store ST.out.one rfl rfl rfl rfl rfl pl_int rfl rfl ?_; intro w3 nb m; have st_ := Lib.hid (ST.out.set1 nb m); clear ST nb m; have ST := st_)
            | ((with_reducible refine Step.gate_store (t := 4) rfl ?_); refine Step.store ST.out.one rfl rfl rfl rfl rfl pl_bool rfl rfl ?_; intro w3 nb m; have st_ := Lib.hid (ST.out.set1 nb m); clear ST nb m; have ST := st_)
            | ((with_reducible refine Step.gate_store (t := 41) rfl ?_); refine Step.storeAll ST.out.one rfl rfl rfl rfl rfl size_inst rfl rfl ?_; intro w3 nb m; have st_ := Lib.hid (ST.out.set1 nb m); clear ST nb m; have ST := st_)
            | ((with_reducible refine Step.gate_load (t := 3) rfl ?_); refine Step.load ST.out.one rfl rfl rfl pl_int rfl ?_)
            | ((with_reducible refine Step.gate_load (t := 4) rfl ?_); refine Step.load ST.out.one rfl rfl rfl pl_bool rfl ?_)
            | ((with_reducible refine Step.gate_load (t := 41) rfl ?_); refine Step.loadAll ST.out.one rfl rfl rfl Try.underlying41 rfl size_inst ?_))
        refine bodyPost_ret (results_row_tmp rfl _ _ g1 _ _ _ rfl ST.out.one Try.underlying41 rfl size_inst) rfl ⟨by rw [hd]; rfl, ST.out.below⟩
      · obtain ⟨v, hv'⟩ : ∃ v, fvL.getD k 0 = v := ⟨_, rfl⟩
        rw [hv'] at hc hv
        have cv : (v == f) = false := beq_eq_false_iff_ne.2 hv
        go_wp2
        refine ⟨⟨k + 1, by omega, by go_num, ST.out, PB.out, fun j hj => ?_⟩, by simp [intOf]; omega⟩
        by_cases e : j = k
        · subst e; rw [hv']; exact hv
        · exact HM.out j (by omega)
    · obtain rfl : k = 9 := by omega
      have hd : atE 4 f rd rs1 rs2 = none := by unfold atE; rw [fv_miss f rs2 bf h2' h3 HM.out]; rfl
      clear HM h2' h2 h3 bf
      go_wp2_with (first
          | ((with_reducible refine Step.gate_store (t := 3) rfl ?_); refine Step.store ST.out.one rfl rfl rfl rfl rfl pl_int rfl rfl ?_; intro w3 nb m; have st_ := Lib.hid (ST.out.set1 nb m); clear ST nb m; have ST := st_)
          | ((with_reducible refine Step.gate_store (t := 4) rfl ?_); refine Step.store ST.out.one rfl rfl rfl rfl rfl pl_bool rfl rfl ?_; intro w3 nb m; have st_ := Lib.hid (ST.out.set1 nb m); clear ST nb m; have ST := st_)
          | ((with_reducible refine Step.gate_store (t := 41) rfl ?_); refine Step.storeAll ST.out.one rfl rfl rfl rfl rfl size_inst rfl rfl ?_; intro w3 nb m; have st_ := Lib.hid (ST.out.set1 nb m); clear ST nb m; have ST := st_)
          | ((with_reducible refine Step.gate_load (t := 3) rfl ?_); refine Step.load ST.out.one rfl rfl rfl pl_int rfl ?_)
          | ((with_reducible refine Step.gate_load (t := 4) rfl ?_); refine Step.load ST.out.one rfl rfl rfl pl_bool rfl ?_)
          | ((with_reducible refine Step.gate_load (t := 41) rfl ?_); refine Step.loadAll ST.out.one rfl rfl rfl Try.underlying41 rfl size_inst ?_))
      refine bodyPost_ret (results_row_tmp rfl _ _ g1 _ _ _ rfl ST.out.one Try.underlying41 rfl size_inst) rfl ⟨by rw [hd]; rfl, ST.out.below⟩
set_option maxHeartbeats 2000000 in
theorem ratomic_3 (a rd rs1 rs2 : Int) (ha : W32 a) (w : World) : Calls Try.prog 33 #[.int .u32 a, .int .i64 3, .int .i64 rd, .int .i64 rs1, .int .i64 rs2] w fun e w' => e = .returned (told (atE 8 (fd a 31 27) rd rs1 rs2)) ∧ Below w.heap.size w w' := by
  have T0 := Lib.hid (fun w => calls_below (rbits_any a 31 27 31 27 ha rfl rfl (by decide) (by decide) w))
  have bf := fd_lit (a := a) (h := 31) (l := 27) (n := 32) rfl
  generalize fd a 31 27 = f at *
  by_cases h3 : f = 3
  · subst h3
    rw [show atE 8 3 rd rs1 rs2 = (some ⟨16, 0, rd, rs1, rs2, 0, 8, false⟩ : Option Ins) from by simp [atE, atF]]
    clear bf
    go_enter Try.func33, Try.ntmps33
    go_wp2_with (first
      | (go_at_call 25; (with_reducible refine (T0.out _).mono ?_); rintro e w' ⟨rfl, hb⟩; (try (have pb_ := Lib.hid (PB.out.below hb); clear PB; have PB := pb_)); have st_ := Lib.hid (ST.out.call hb); clear ST hb; have ST := st_)
      | ((with_reducible refine Step.gate_alloc (t := 41) rfl ?_); refine Step.freshAlloc rfl rfl (alloc_agg zero_inst) ?_; intro g1 w1 b hg hb; have ST := Lib.hid (S1.made b hg hb); clear b hg hb)
      | ((with_reducible refine Step.gate_build (t := 57) rfl ?_); refine Step.freshSlice (cs := #[.int .i64 1, .int .i64 0, .int .i64 4, .int .i64 12, .int .i64 8, .int .i64 16, .int .i64 20, .int .i64 24, .int .i64 28]) (T := 3) (n := 9) (m := 9) rfl ?hr ?_; (case hr => first | (go_simp; done) | (go_simp; rfl)); intro g9 w1 b hg hb; have PB := Lib.hid (show Blk w1 g9 (Enc.ints ([1, 0, 4, 12, 8, 16, 20, 24, 28] : List Int)) _ from b); have st_ := Lib.hid (ST.out.call hb); clear ST b hb hg; have ST := st_)
      | ((with_reducible refine Step.gate_store (t := 3) rfl ?_); refine Step.store ST.out.one rfl rfl rfl rfl rfl pl_int rfl rfl ?_; intro w3 nb m; have st_ := Lib.hid (ST.out.set1 nb m); clear ST nb m; have ST := st_)
      | ((with_reducible refine Step.gate_store (t := 4) rfl ?_); refine Step.store ST.out.one rfl rfl rfl rfl rfl pl_bool rfl rfl ?_; intro w3 nb m; have st_ := Lib.hid (ST.out.set1 nb m); clear ST nb m; have ST := st_)
      | ((with_reducible refine Step.gate_store (t := 41) rfl ?_); refine Step.storeAll ST.out.one rfl rfl rfl rfl rfl size_inst rfl rfl ?_; intro w3 nb m; have st_ := Lib.hid (ST.out.set1 nb m); clear ST nb m; have ST := st_)
      | ((with_reducible refine Step.gate_load (t := 3) rfl ?_); refine Step.load ST.out.one rfl rfl rfl pl_int rfl ?_)
      | ((with_reducible refine Step.gate_load (t := 4) rfl ?_); refine Step.load ST.out.one rfl rfl rfl pl_bool rfl ?_)
      | ((with_reducible refine Step.gate_load (t := 41) rfl ?_); refine Step.loadAll ST.out.one rfl rfl rfl Try.underlying41 rfl size_inst ?_))
    refine bodyPost_ret (results_row_tmp rfl _ _ g1 _ _ _ rfl ST.out.one Try.underlying41 rfl size_inst) rfl ⟨rfl, ST.out.below⟩
  by_cases h2 : f = 2 ∧ rs2 = 0
  · obtain ⟨h2, h0⟩ := h2
    subst h2 h0
    rw [show atE 8 2 rd rs1 0 = (some ⟨15, 0, rd, rs1, 0, 0, 8, false⟩ : Option Ins) from by simp [atE, atF]]
    clear bf
    go_enter Try.func33, Try.ntmps33
    go_wp2_with (first
      | (go_at_call 25; (with_reducible refine (T0.out _).mono ?_); rintro e w' ⟨rfl, hb⟩; (try (have pb_ := Lib.hid (PB.out.below hb); clear PB; have PB := pb_)); have st_ := Lib.hid (ST.out.call hb); clear ST hb; have ST := st_)
      | ((with_reducible refine Step.gate_alloc (t := 41) rfl ?_); refine Step.freshAlloc rfl rfl (alloc_agg zero_inst) ?_; intro g1 w1 b hg hb; have ST := Lib.hid (S1.made b hg hb); clear b hg hb)
      | ((with_reducible refine Step.gate_build (t := 57) rfl ?_); refine Step.freshSlice (cs := #[.int .i64 1, .int .i64 0, .int .i64 4, .int .i64 12, .int .i64 8, .int .i64 16, .int .i64 20, .int .i64 24, .int .i64 28]) (T := 3) (n := 9) (m := 9) rfl ?hr ?_; (case hr => first | (go_simp; done) | (go_simp; rfl)); intro g9 w1 b hg hb; have PB := Lib.hid (show Blk w1 g9 (Enc.ints ([1, 0, 4, 12, 8, 16, 20, 24, 28] : List Int)) _ from b); have st_ := Lib.hid (ST.out.call hb); clear ST b hb hg; have ST := st_)
      | ((with_reducible refine Step.gate_store (t := 3) rfl ?_); refine Step.store ST.out.one rfl rfl rfl rfl rfl pl_int rfl rfl ?_; intro w3 nb m; have st_ := Lib.hid (ST.out.set1 nb m); clear ST nb m; have ST := st_)
      | ((with_reducible refine Step.gate_store (t := 4) rfl ?_); refine Step.store ST.out.one rfl rfl rfl rfl rfl pl_bool rfl rfl ?_; intro w3 nb m; have st_ := Lib.hid (ST.out.set1 nb m); clear ST nb m; have ST := st_)
      | ((with_reducible refine Step.gate_store (t := 41) rfl ?_); refine Step.storeAll ST.out.one rfl rfl rfl rfl rfl size_inst rfl rfl ?_; intro w3 nb m; have st_ := Lib.hid (ST.out.set1 nb m); clear ST nb m; have ST := st_)
      | ((with_reducible refine Step.gate_load (t := 3) rfl ?_); refine Step.load ST.out.one rfl rfl rfl pl_int rfl ?_)
      | ((with_reducible refine Step.gate_load (t := 4) rfl ?_); refine Step.load ST.out.one rfl rfl rfl pl_bool rfl ?_)
      | ((with_reducible refine Step.gate_load (t := 41) rfl ?_); refine Step.loadAll ST.out.one rfl rfl rfl Try.underlying41 rfl size_inst ?_))
    refine bodyPost_ret (results_row_tmp rfl _ _ g1 _ _ _ rfl ST.out.one Try.underlying41 rfl size_inst) rfl ⟨rfl, ST.out.below⟩
  have h2' : f = 2 → rs2 ≠ 0 := fun h h' => h2 ⟨h, h'⟩
  have c3 : (f == 3) = false := beq_eq_false_iff_ne.2 h3
  have key : ∀ b : Bool, (f == 2) = b → (b = true → rs2 ≠ 0) := fun b h hb => h2' (by subst hb; exact eq_of_beq h)
  by_cases h20 : f = 2
  · have c2 : (f == 2) = true := beq_iff_eq.2 h20
    have c0 : (rs2 == 0) = false := beq_eq_false_iff_ne.2 (h2' h20)
    clear key
    go_enter Try.func33, Try.ntmps33
    go_wp2_with (first
      | (go_at_call 25; (with_reducible refine (T0.out _).mono ?_); rintro e w' ⟨rfl, hb⟩; (try (have pb_ := Lib.hid (PB.out.below hb); clear PB; have PB := pb_)); have st_ := Lib.hid (ST.out.call hb); clear ST hb; have ST := st_)
      | ((with_reducible refine Step.gate_alloc (t := 41) rfl ?_); refine Step.freshAlloc rfl rfl (alloc_agg zero_inst) ?_; intro g1 w1 b hg hb; have ST := Lib.hid (S1.made b hg hb); clear b hg hb)
      | ((with_reducible refine Step.gate_build (t := 57) rfl ?_); refine Step.freshSlice (cs := #[.int .i64 1, .int .i64 0, .int .i64 4, .int .i64 12, .int .i64 8, .int .i64 16, .int .i64 20, .int .i64 24, .int .i64 28]) (T := 3) (n := 9) (m := 9) rfl ?hr ?_; (case hr => first | (go_simp; done) | (go_simp; rfl)); intro g9 w1 b hg hb; have PB := Lib.hid (show Blk w1 g9 (Enc.ints ([1, 0, 4, 12, 8, 16, 20, 24, 28] : List Int)) _ from b); have st_ := Lib.hid (ST.out.call hb); clear ST b hb hg; have ST := st_)
      | ((with_reducible refine Step.gate_store (t := 3) rfl ?_); refine Step.store ST.out.one rfl rfl rfl rfl rfl pl_int rfl rfl ?_; intro w3 nb m; have st_ := Lib.hid (ST.out.set1 nb m); clear ST nb m; have ST := st_)
      | ((with_reducible refine Step.gate_store (t := 4) rfl ?_); refine Step.store ST.out.one rfl rfl rfl rfl rfl pl_bool rfl rfl ?_; intro w3 nb m; have st_ := Lib.hid (ST.out.set1 nb m); clear ST nb m; have ST := st_)
      | ((with_reducible refine Step.gate_store (t := 41) rfl ?_); refine Step.storeAll ST.out.one rfl rfl rfl rfl rfl size_inst rfl rfl ?_; intro w3 nb m; have st_ := Lib.hid (ST.out.set1 nb m); clear ST nb m; have ST := st_)
      | ((with_reducible refine Step.gate_load (t := 3) rfl ?_); refine Step.load ST.out.one rfl rfl rfl pl_int rfl ?_)
      | ((with_reducible refine Step.gate_load (t := 4) rfl ?_); refine Step.load ST.out.one rfl rfl rfl pl_bool rfl ?_)
      | ((with_reducible refine Step.gate_load (t := 41) rfl ?_); refine Step.loadAll ST.out.one rfl rfl rfl Try.underlying41 rfl size_inst ?_))
    go_loopw [15] (fun i w_ => ∃ k : Nat, k ≤ 9 ∧ i = .int .i64 k ∧ S1 w w_ 41 g1 #[.int .i64 0, .int .i64 0, .int .i64 0, .int .i64 0, .int .i64 0, .int .i64 0, .int .i64 0, .bool false] ∧ Blk w_ g9 (Enc.ints fvL) 3 ∧ ∀ j, j < k → fvL.getD j 0 ≠ f) (fun i _ => (9 - intOf i).toNat)
    case atStart => exact ⟨0, Nat.zero_le _, rfl, ST.out, PB.out, fun j h => absurd h (Nat.not_lt_zero j)⟩
    case round =>
      clear ST PB
      obtain ⟨k, hk, rfl, hS, hP, hm⟩ := hrel
      have ST := Lib.hid hS
      have PB := Lib.hid hP
      have HM := Lib.hid hm
      clear hS hP hm
      by_cases hlt : k < 9
      · have hc := (PB.out.cell k).trans (ints_at fvL k hlt)
        by_cases hv : fvL.getD k 0 = f
        · have hd : atE 8 f rd rs1 rs2 = some ⟨17, (k : Int) + 1, rd, rs1, rs2, 0, 8, false⟩ := by subst hv; unfold atE; rw [fv_hit ⟨k, hlt⟩ rs2]; rfl
          rw [hv] at hc
          clear HM h2' h2 h3 bf hv
          go_wp2_with (first
              | ((with_reducible refine Step.gate_store (t := 3) rfl ?_); refine Step.store ST.out.one rfl rfl rfl rfl rfl pl_int rfl rfl ?_; intro w3 nb m; have st_ := Lib.hid (ST.out.set1 nb m); clear ST nb m; have ST := st_)
              | ((with_reducible refine Step.gate_store (t := 4) rfl ?_); refine Step.store ST.out.one rfl rfl rfl rfl rfl pl_bool rfl rfl ?_; intro w3 nb m; have st_ := Lib.hid (ST.out.set1 nb m); clear ST nb m; have ST := st_)
              | ((with_reducible refine Step.gate_store (t := 41) rfl ?_); refine Step.storeAll ST.out.one rfl rfl rfl rfl rfl size_inst rfl rfl ?_; intro w3 nb m; have st_ := Lib.hid (ST.out.set1 nb m); clear ST nb m; have ST := st_)
              | ((with_reducible refine Step.gate_load (t := 3) rfl ?_); refine Step.load ST.out.one rfl rfl rfl pl_int rfl ?_)
              | ((with_reducible refine Step.gate_load (t := 4) rfl ?_); refine Step.load ST.out.one rfl rfl rfl pl_bool rfl ?_)
              | ((with_reducible refine Step.gate_load (t := 41) rfl ?_); refine Step.loadAll ST.out.one rfl rfl rfl Try.underlying41 rfl size_inst ?_))
          refine bodyPost_ret (results_row_tmp rfl _ _ g1 _ _ _ rfl ST.out.one Try.underlying41 rfl size_inst) rfl ⟨by rw [hd]; rfl, ST.out.below⟩
        · obtain ⟨v, hv'⟩ : ∃ v, fvL.getD k 0 = v := ⟨_, rfl⟩
          rw [hv'] at hc hv
          have cv : (v == f) = false := beq_eq_false_iff_ne.2 hv
          go_wp2
          refine ⟨⟨k + 1, by omega, by go_num, ST.out, PB.out, fun j hj => ?_⟩, by simp [intOf]; omega⟩
          by_cases e : j = k
          · subst e; rw [hv']; exact hv
          · exact HM.out j (by omega)
      · obtain rfl : k = 9 := by omega
        have hd : atE 8 f rd rs1 rs2 = none := by unfold atE; rw [fv_miss f rs2 bf h2' h3 HM.out]; rfl
        clear HM h2' h2 h3 bf
        go_wp2_with (first
            | ((with_reducible refine Step.gate_store (t := 3) rfl ?_); refine Step.store ST.out.one rfl rfl rfl rfl rfl pl_int rfl rfl ?_; intro w3 nb m; have st_ := Lib.hid (ST.out.set1 nb m); clear ST nb m; have ST := st_)
            | ((with_reducible refine Step.gate_store (t := 4) rfl ?_); refine Step.store ST.out.one rfl rfl rfl rfl rfl pl_bool rfl rfl ?_; intro w3 nb m; have st_ := Lib.hid (ST.out.set1 nb m); clear ST nb m; have ST := st_)
            | ((with_reducible refine Step.gate_store (t := 41) rfl ?_); refine Step.storeAll ST.out.one rfl rfl rfl rfl rfl size_inst rfl rfl ?_; intro w3 nb m; have st_ := Lib.hid (ST.out.set1 nb m); clear ST nb m; have ST := st_)
            | ((with_reducible refine Step.gate_load (t := 3) rfl ?_); refine Step.load ST.out.one rfl rfl rfl pl_int rfl ?_)
            | ((with_reducible refine Step.gate_load (t := 4) rfl ?_); refine Step.load ST.out.one rfl rfl rfl pl_bool rfl ?_)
            | ((with_reducible refine Step.gate_load (t := 41) rfl ?_); refine Step.loadAll ST.out.one rfl rfl rfl Try.underlying41 rfl size_inst ?_))
        refine bodyPost_ret (results_row_tmp rfl _ _ g1 _ _ _ rfl ST.out.one Try.underlying41 rfl size_inst) rfl ⟨by rw [hd]; rfl, ST.out.below⟩
  have c2 : (f == 2) = false := beq_eq_false_iff_ne.2 h20
  clear key
  go_enter Try.func33, Try.ntmps33
  go_wp2_with (first
    | (go_at_call 25; (with_reducible refine (T0.out _).mono ?_); rintro e w' ⟨rfl, hb⟩; (try (have pb_ := Lib.hid (PB.out.below hb); clear PB; have PB := pb_)); have st_ := Lib.hid (ST.out.call hb); clear ST hb; have ST := st_)
    | ((with_reducible refine Step.gate_alloc (t := 41) rfl ?_); refine Step.freshAlloc rfl rfl (alloc_agg zero_inst) ?_; intro g1 w1 b hg hb; have ST := Lib.hid (S1.made b hg hb); clear b hg hb)
    | ((with_reducible refine Step.gate_build (t := 57) rfl ?_); refine Step.freshSlice (cs := #[.int .i64 1, .int .i64 0, .int .i64 4, .int .i64 12, .int .i64 8, .int .i64 16, .int .i64 20, .int .i64 24, .int .i64 28]) (T := 3) (n := 9) (m := 9) rfl ?hr ?_; (case hr => first | (go_simp; done) | (go_simp; rfl)); intro g9 w1 b hg hb; have PB := Lib.hid (show Blk w1 g9 (Enc.ints ([1, 0, 4, 12, 8, 16, 20, 24, 28] : List Int)) _ from b); have st_ := Lib.hid (ST.out.call hb); clear ST b hb hg; have ST := st_)
    | ((with_reducible refine Step.gate_store (t := 3) rfl ?_); refine Step.store ST.out.one rfl rfl rfl rfl rfl pl_int rfl rfl ?_; intro w3 nb m; have st_ := Lib.hid (ST.out.set1 nb m); clear ST nb m; have ST := st_)
    | ((with_reducible refine Step.gate_store (t := 4) rfl ?_); refine Step.store ST.out.one rfl rfl rfl rfl rfl pl_bool rfl rfl ?_; intro w3 nb m; have st_ := Lib.hid (ST.out.set1 nb m); clear ST nb m; have ST := st_)
    | ((with_reducible refine Step.gate_store (t := 41) rfl ?_); refine Step.storeAll ST.out.one rfl rfl rfl rfl rfl size_inst rfl rfl ?_; intro w3 nb m; have st_ := Lib.hid (ST.out.set1 nb m); clear ST nb m; have ST := st_)
    | ((with_reducible refine Step.gate_load (t := 3) rfl ?_); refine Step.load ST.out.one rfl rfl rfl pl_int rfl ?_)
    | ((with_reducible refine Step.gate_load (t := 4) rfl ?_); refine Step.load ST.out.one rfl rfl rfl pl_bool rfl ?_)
    | ((with_reducible refine Step.gate_load (t := 41) rfl ?_); refine Step.loadAll ST.out.one rfl rfl rfl Try.underlying41 rfl size_inst ?_))
  go_loopw [15] (fun i w_ => ∃ k : Nat, k ≤ 9 ∧ i = .int .i64 k ∧ S1 w w_ 41 g1 #[.int .i64 0, .int .i64 0, .int .i64 0, .int .i64 0, .int .i64 0, .int .i64 0, .int .i64 0, .bool false] ∧ Blk w_ g9 (Enc.ints fvL) 3 ∧ ∀ j, j < k → fvL.getD j 0 ≠ f) (fun i _ => (9 - intOf i).toNat)
  case atStart => exact ⟨0, Nat.zero_le _, rfl, ST.out, PB.out, fun j h => absurd h (Nat.not_lt_zero j)⟩
  case round =>
    clear ST PB
    obtain ⟨k, hk, rfl, hS, hP, hm⟩ := hrel
    have ST := Lib.hid hS
    have PB := Lib.hid hP
    have HM := Lib.hid hm
    clear hS hP hm
    by_cases hlt : k < 9
    · have hc := (PB.out.cell k).trans (ints_at fvL k hlt)
      by_cases hv : fvL.getD k 0 = f
      · have hd : atE 8 f rd rs1 rs2 = some ⟨17, (k : Int) + 1, rd, rs1, rs2, 0, 8, false⟩ := by subst hv; unfold atE; rw [fv_hit ⟨k, hlt⟩ rs2]; rfl
        rw [hv] at hc
        clear HM h2' h2 h3 bf hv
        go_wp2_with (first
            | ((with_reducible refine Step.gate_store (t := 3) rfl ?_); refine Step.store ST.out.one rfl rfl rfl rfl rfl pl_int rfl rfl ?_; intro w3 nb m; have st_ := Lib.hid (ST.out.set1 nb m); clear ST nb m; have ST := st_)
            | ((with_reducible refine Step.gate_store (t := 4) rfl ?_); refine Step.store ST.out.one rfl rfl rfl rfl rfl pl_bool rfl rfl ?_; intro w3 nb m; have st_ := Lib.hid (ST.out.set1 nb m); clear ST nb m; have ST := st_)
            | ((with_reducible refine Step.gate_store (t := 41) rfl ?_); refine Step.storeAll ST.out.one rfl rfl rfl rfl rfl size_inst rfl rfl ?_; intro w3 nb m; have st_ := Lib.hid (ST.out.set1 nb m); clear ST nb m; have ST := st_)
            | ((with_reducible refine Step.gate_load (t := 3) rfl ?_); refine Step.load ST.out.one rfl rfl rfl pl_int rfl ?_)
            | ((with_reducible refine Step.gate_load (t := 4) rfl ?_); refine Step.load ST.out.one rfl rfl rfl pl_bool rfl ?_)
            | ((with_reducible refine Step.gate_load (t := 41) rfl ?_); refine Step.loadAll ST.out.one rfl rfl rfl Try.underlying41 rfl size_inst ?_))
        refine bodyPost_ret (results_row_tmp rfl _ _ g1 _ _ _ rfl ST.out.one Try.underlying41 rfl size_inst) rfl ⟨by rw [hd]; rfl, ST.out.below⟩
      · obtain ⟨v, hv'⟩ : ∃ v, fvL.getD k 0 = v := ⟨_, rfl⟩
        rw [hv'] at hc hv
        have cv : (v == f) = false := beq_eq_false_iff_ne.2 hv
        go_wp2
        refine ⟨⟨k + 1, by omega, by go_num, ST.out, PB.out, fun j hj => ?_⟩, by simp [intOf]; omega⟩
        by_cases e : j = k
        · subst e; rw [hv']; exact hv
        · exact HM.out j (by omega)
    · obtain rfl : k = 9 := by omega
      have hd : atE 8 f rd rs1 rs2 = none := by unfold atE; rw [fv_miss f rs2 bf h2' h3 HM.out]; rfl
      clear HM h2' h2 h3 bf
      go_wp2_with (first
          | ((with_reducible refine Step.gate_store (t := 3) rfl ?_); refine Step.store ST.out.one rfl rfl rfl rfl rfl pl_int rfl rfl ?_; intro w3 nb m; have st_ := Lib.hid (ST.out.set1 nb m); clear ST nb m; have ST := st_)
          | ((with_reducible refine Step.gate_store (t := 4) rfl ?_); refine Step.store ST.out.one rfl rfl rfl rfl rfl pl_bool rfl rfl ?_; intro w3 nb m; have st_ := Lib.hid (ST.out.set1 nb m); clear ST nb m; have ST := st_)
          | ((with_reducible refine Step.gate_store (t := 41) rfl ?_); refine Step.storeAll ST.out.one rfl rfl rfl rfl rfl size_inst rfl rfl ?_; intro w3 nb m; have st_ := Lib.hid (ST.out.set1 nb m); clear ST nb m; have ST := st_)
          | ((with_reducible refine Step.gate_load (t := 3) rfl ?_); refine Step.load ST.out.one rfl rfl rfl pl_int rfl ?_)
          | ((with_reducible refine Step.gate_load (t := 4) rfl ?_); refine Step.load ST.out.one rfl rfl rfl pl_bool rfl ?_)
          | ((with_reducible refine Step.gate_load (t := 41) rfl ?_); refine Step.loadAll ST.out.one rfl rfl rfl Try.underlying41 rfl size_inst ?_))
      refine bodyPost_ret (results_row_tmp rfl _ _ g1 _ _ _ rfl ST.out.one Try.underlying41 rfl size_inst) rfl ⟨by rw [hd]; rfl, ST.out.below⟩
end Go.Proofs.Ytecpkipgkaaefaa.Enc
end
