/- Parts of the walks and laws for the claim: DecR, DecS, Encode, REnc, WordE, DecG; no conditions beyond the theorems' own. -/
import Derived.Test.YthkodjkkcgdmfaaGreatV9
import Derived.Test.YthkodjkkcgdmfaaGreatV11
import Derived.Test.YthkodjkkcgdmfaaGreatV15
import Derived.Test.YthkodjkkcgdmfaaGreatV17
import Derived.Test.YthkodjkkcgdmfaaGreatV18
section
namespace Go.Proofs.YthkodjkkcgdmfaaGreat.Enc
open Go Go.RowKit Go.Proofs.YthkodjkkcgdmfaaGreat.Step
set_option linter.unusedVariables false
set_option linter.unusedSimpArgs false
set_option maxRecDepth 100000
theorem rsystem_18 (x s rd rs1 rs2 : Int) (w : World) : Calls Tryz.prog 76 #[.int .u32 270532723, .int .i64 x, .int .i64 s, .int .i64 rd, .int .i64 rs1, .int .i64 rs2] w fun e w' => e = .returned (told (some ⟨18, 0, 0, 0, 0, 0, 0, false⟩)) ∧ Below w.heap.size w w' := by
  go_enter Tryz.func76, Tryz.ntmps76
  go_wp2_with (first
    | ((with_reducible refine Step.gate_alloc (t := 44) rfl ?_); refine Step.freshAlloc rfl rfl (alloc_agg zero_inst) ?_; intro g1 w1 b hg hb; have ST := Lib.hid (S1.made b hg hb); clear b hg hb)
    | ((with_reducible refine Step.gate_store (t := 3) rfl ?_); refine Step.store ST.out.one rfl rfl rfl rfl rfl pl_int rfl rfl ?_; intro w3 nb m; have st_ := Lib.hid (ST.out.set1 nb m); clear ST nb m; have ST := st_)
    | ((with_reducible refine Step.gate_store (t := 4) rfl ?_); refine Step.store ST.out.one rfl rfl rfl rfl rfl pl_bool rfl rfl ?_; intro w3 nb m; have st_ := Lib.hid (ST.out.set1 nb m); clear ST nb m; have ST := st_)
    | ((with_reducible refine Step.gate_store (t := 44) rfl ?_); refine Step.storeAll ST.out.one rfl rfl rfl rfl rfl size_inst rfl rfl ?_; intro w3 nb m; have st_ := Lib.hid (ST.out.set1 nb m); clear ST nb m; have ST := st_)
    | ((with_reducible refine Step.gate_load (t := 3) rfl ?_); refine Step.load ST.out.one rfl rfl rfl pl_int rfl ?_)
    | ((with_reducible refine Step.gate_load (t := 4) rfl ?_); refine Step.load ST.out.one rfl rfl rfl pl_bool rfl ?_)
    | ((with_reducible refine Step.gate_load (t := 44) rfl ?_); refine Step.loadAll ST.out.one rfl rfl rfl Tryz.underlying44 rfl size_inst ?_))
  refine bodyPost_ret (results_row_tmp rfl _ _ g1 _ _ _ rfl ST.out.one Tryz.underlying44 rfl size_inst) rfl ⟨rfl, ST.out.below⟩
theorem rsystem_19 (x s rd rs1 rs2 : Int) (w : World) : Calls Tryz.prog 76 #[.int .u32 273678451, .int .i64 x, .int .i64 s, .int .i64 rd, .int .i64 rs1, .int .i64 rs2] w fun e w' => e = .returned (told (some ⟨19, 0, 0, 0, 0, 0, 0, false⟩)) ∧ Below w.heap.size w w' := by
  go_enter Tryz.func76, Tryz.ntmps76
  go_wp2_with (first
    | ((with_reducible refine Step.gate_alloc (t := 44) rfl ?_); refine Step.freshAlloc rfl rfl (alloc_agg zero_inst) ?_; intro g1 w1 b hg hb; have ST := Lib.hid (S1.made b hg hb); clear b hg hb)
    | ((with_reducible refine Step.gate_store (t := 3) rfl ?_); refine Step.store ST.out.one rfl rfl rfl rfl rfl pl_int rfl rfl ?_; intro w3 nb m; have st_ := Lib.hid (ST.out.set1 nb m); clear ST nb m; have ST := st_)
    | ((with_reducible refine Step.gate_store (t := 4) rfl ?_); refine Step.store ST.out.one rfl rfl rfl rfl rfl pl_bool rfl rfl ?_; intro w3 nb m; have st_ := Lib.hid (ST.out.set1 nb m); clear ST nb m; have ST := st_)
    | ((with_reducible refine Step.gate_store (t := 44) rfl ?_); refine Step.storeAll ST.out.one rfl rfl rfl rfl rfl size_inst rfl rfl ?_; intro w3 nb m; have st_ := Lib.hid (ST.out.set1 nb m); clear ST nb m; have ST := st_)
    | ((with_reducible refine Step.gate_load (t := 3) rfl ?_); refine Step.load ST.out.one rfl rfl rfl pl_int rfl ?_)
    | ((with_reducible refine Step.gate_load (t := 4) rfl ?_); refine Step.load ST.out.one rfl rfl rfl pl_bool rfl ?_)
    | ((with_reducible refine Step.gate_load (t := 44) rfl ?_); refine Step.loadAll ST.out.one rfl rfl rfl Tryz.underlying44 rfl size_inst ?_))
  refine bodyPost_ret (results_row_tmp rfl _ _ g1 _ _ _ rfl ST.out.one Tryz.underlying44 rfl size_inst) rfl ⟨rfl, ST.out.below⟩
/-- The rest of the system's instructions, over their fields. -/
def sysF (x s rd rs1 rs2 m : Int) : Option Ins :=
  if x = 0 then (if s = 9 ∧ rd = 0 then some ⟨20, 0, 0, rs1, rs2, 0, 0, false⟩ else none)
  else if pk csL x = 0 then none
  else some ⟨if x < 4 then 13 else 14, pk csL x, rd, rs1, 0, m, 0, false⟩
set_option maxHeartbeats 2000000 in
theorem rsystem_any (a x s rd rs1 rs2 : Int) (ha : W32 a) (n0 : a ≠ 115) (n1 : a ≠ 1048691) (n2 : a ≠ 270532723) (n3 : a ≠ 273678451) (hx : 0 ≤ x ∧ x < 8) (w : World) : Calls Tryz.prog 76 #[.int .u32 a, .int .i64 x, .int .i64 s, .int .i64 rd, .int .i64 rs1, .int .i64 rs2] w fun e w' => e = .returned (told (sysF x s rd rs1 rs2 (fd a 31 20))) ∧ Below w.heap.size w w' := by
  have T0 := Lib.hid (fun w => calls_below (rbits_any a 31 20 31 20 ha rfl rfl (by decide) (by decide) w))
  generalize fd a 31 20 = m at *
  obtain h | h | h | h | h | h | h | h : x = 0 ∨ x = 1 ∨ x = 2 ∨ x = 3 ∨ x = 4 ∨ x = 5 ∨ x = 6 ∨ x = 7 := by omega
  · subst h
    clear hx
    by_cases h9 : s = 9
    · by_cases h0 : rd = 0
      · rw [show sysF 0 s rd rs1 rs2 m = (some ⟨20, 0, 0, rs1, rs2, 0, 0, false⟩ : Option Ins) from by simp [sysF, csL, pk, h9, h0]]
        go_enter Tryz.func76, Tryz.ntmps76
        go_wp2_with (first
          | (go_at_call 70; (with_reducible refine (T0.out _).mono ?_); rintro e w' ⟨rfl, hb⟩; (try (have pb_ := Lib.hid (PB.out.below hb); clear PB; have PB := pb_)); have st_ := Lib.hid (ST.out.call hb); clear ST hb; have ST := st_)
          | ((with_reducible refine Step.gate_alloc (t := 44) rfl ?_); refine Step.freshAlloc rfl rfl (alloc_agg zero_inst) ?_; intro g1 w1 b hg hb; have ST := Lib.hid (S1.made b hg hb); clear b hg hb)
          | ((with_reducible refine Step.gate_store (t := 3) rfl ?_); refine Step.store ST.out.one rfl rfl rfl rfl rfl pl_int rfl rfl ?_; intro w3 nb m; have st_ := Lib.hid (ST.out.set1 nb m); clear ST nb m; have ST := st_)
          | ((with_reducible refine Step.gate_store (t := 4) rfl ?_); refine Step.store ST.out.one rfl rfl rfl rfl rfl pl_bool rfl rfl ?_; intro w3 nb m; have st_ := Lib.hid (ST.out.set1 nb m); clear ST nb m; have ST := st_)
          | ((with_reducible refine Step.gate_store (t := 44) rfl ?_); refine Step.storeAll ST.out.one rfl rfl rfl rfl rfl size_inst rfl rfl ?_; intro w3 nb m; have st_ := Lib.hid (ST.out.set1 nb m); clear ST nb m; have ST := st_)
          | ((with_reducible refine Step.gate_load (t := 3) rfl ?_); refine Step.load ST.out.one rfl rfl rfl pl_int rfl ?_)
          | ((with_reducible refine Step.gate_load (t := 4) rfl ?_); refine Step.load ST.out.one rfl rfl rfl pl_bool rfl ?_)
          | ((with_reducible refine Step.gate_load (t := 44) rfl ?_); refine Step.loadAll ST.out.one rfl rfl rfl Tryz.underlying44 rfl size_inst ?_))
        refine bodyPost_ret (results_row_tmp rfl _ _ g1 _ _ _ rfl ST.out.one Tryz.underlying44 rfl size_inst) rfl ⟨rfl, ST.out.below⟩
      · rw [show sysF 0 s rd rs1 rs2 m = (none : Option Ins) from by simp [sysF, csL, pk, h9, h0]]
        go_enter Tryz.func76, Tryz.ntmps76
        go_wp2_with (first
          | (go_at_call 70; (with_reducible refine (T0.out _).mono ?_); rintro e w' ⟨rfl, hb⟩; (try (have pb_ := Lib.hid (PB.out.below hb); clear PB; have PB := pb_)); have st_ := Lib.hid (ST.out.call hb); clear ST hb; have ST := st_)
          | ((with_reducible refine Step.gate_alloc (t := 44) rfl ?_); refine Step.freshAlloc rfl rfl (alloc_agg zero_inst) ?_; intro g1 w1 b hg hb; have ST := Lib.hid (S1.made b hg hb); clear b hg hb)
          | ((with_reducible refine Step.gate_store (t := 3) rfl ?_); refine Step.store ST.out.one rfl rfl rfl rfl rfl pl_int rfl rfl ?_; intro w3 nb m; have st_ := Lib.hid (ST.out.set1 nb m); clear ST nb m; have ST := st_)
          | ((with_reducible refine Step.gate_store (t := 4) rfl ?_); refine Step.store ST.out.one rfl rfl rfl rfl rfl pl_bool rfl rfl ?_; intro w3 nb m; have st_ := Lib.hid (ST.out.set1 nb m); clear ST nb m; have ST := st_)
          | ((with_reducible refine Step.gate_store (t := 44) rfl ?_); refine Step.storeAll ST.out.one rfl rfl rfl rfl rfl size_inst rfl rfl ?_; intro w3 nb m; have st_ := Lib.hid (ST.out.set1 nb m); clear ST nb m; have ST := st_)
          | ((with_reducible refine Step.gate_load (t := 3) rfl ?_); refine Step.load ST.out.one rfl rfl rfl pl_int rfl ?_)
          | ((with_reducible refine Step.gate_load (t := 4) rfl ?_); refine Step.load ST.out.one rfl rfl rfl pl_bool rfl ?_)
          | ((with_reducible refine Step.gate_load (t := 44) rfl ?_); refine Step.loadAll ST.out.one rfl rfl rfl Tryz.underlying44 rfl size_inst ?_))
        refine bodyPost_ret (results_row_tmp rfl _ _ g1 _ _ _ rfl ST.out.one Tryz.underlying44 rfl size_inst) rfl ⟨rfl, ST.out.below⟩
    · rw [show sysF 0 s rd rs1 rs2 m = (none : Option Ins) from by simp [sysF, csL, pk, h9]]
      go_enter Tryz.func76, Tryz.ntmps76
      go_wp2_with (first
        | (go_at_call 70; (with_reducible refine (T0.out _).mono ?_); rintro e w' ⟨rfl, hb⟩; (try (have pb_ := Lib.hid (PB.out.below hb); clear PB; have PB := pb_)); have st_ := Lib.hid (ST.out.call hb); clear ST hb; have ST := st_)
        | ((with_reducible refine Step.gate_alloc (t := 44) rfl ?_); refine Step.freshAlloc rfl rfl (alloc_agg zero_inst) ?_; intro g1 w1 b hg hb; have ST := Lib.hid (S1.made b hg hb); clear b hg hb)
        | ((with_reducible refine Step.gate_store (t := 3) rfl ?_); refine Step.store ST.out.one rfl rfl rfl rfl rfl pl_int rfl rfl ?_; intro w3 nb m; have st_ := Lib.hid (ST.out.set1 nb m); clear ST nb m; have ST := st_)
        | ((with_reducible refine Step.gate_store (t := 4) rfl ?_); refine Step.store ST.out.one rfl rfl rfl rfl rfl pl_bool rfl rfl ?_; intro w3 nb m; have st_ := Lib.hid (ST.out.set1 nb m); clear ST nb m; have ST := st_)
        | ((with_reducible refine Step.gate_store (t := 44) rfl ?_); refine Step.storeAll ST.out.one rfl rfl rfl rfl rfl size_inst rfl rfl ?_; intro w3 nb m; have st_ := Lib.hid (ST.out.set1 nb m); clear ST nb m; have ST := st_)
        | ((with_reducible refine Step.gate_load (t := 3) rfl ?_); refine Step.load ST.out.one rfl rfl rfl pl_int rfl ?_)
        | ((with_reducible refine Step.gate_load (t := 4) rfl ?_); refine Step.load ST.out.one rfl rfl rfl pl_bool rfl ?_)
        | ((with_reducible refine Step.gate_load (t := 44) rfl ?_); refine Step.loadAll ST.out.one rfl rfl rfl Tryz.underlying44 rfl size_inst ?_))
      refine bodyPost_ret (results_row_tmp rfl _ _ g1 _ _ _ rfl ST.out.one Tryz.underlying44 rfl size_inst) rfl ⟨rfl, ST.out.below⟩
  · subst h
    clear hx
    rw [show sysF 1 s rd rs1 rs2 m = (some ⟨13, 1, rd, rs1, 0, m, 0, false⟩ : Option Ins) from by simp [sysF, csL, pk]]
    go_enter Tryz.func76, Tryz.ntmps76
    go_wp2_with (first
      | (go_at_call 70; (with_reducible refine (T0.out _).mono ?_); rintro e w' ⟨rfl, hb⟩; (try (have pb_ := Lib.hid (PB.out.below hb); clear PB; have PB := pb_)); have st_ := Lib.hid (ST.out.call hb); clear ST hb; have ST := st_)
      | ((with_reducible refine Step.gate_alloc (t := 44) rfl ?_); refine Step.freshAlloc rfl rfl (alloc_agg zero_inst) ?_; intro g1 w1 b hg hb; have ST := Lib.hid (S1.made b hg hb); clear b hg hb)
      | ((with_reducible refine Step.gate_store (t := 3) rfl ?_); refine Step.store ST.out.one rfl rfl rfl rfl rfl pl_int rfl rfl ?_; intro w3 nb m; have st_ := Lib.hid (ST.out.set1 nb m); clear ST nb m; have ST := st_)
      | ((with_reducible refine Step.gate_store (t := 4) rfl ?_); refine Step.store ST.out.one rfl rfl rfl rfl rfl pl_bool rfl rfl ?_; intro w3 nb m; have st_ := Lib.hid (ST.out.set1 nb m); clear ST nb m; have ST := st_)
      | ((with_reducible refine Step.gate_store (t := 44) rfl ?_); refine Step.storeAll ST.out.one rfl rfl rfl rfl rfl size_inst rfl rfl ?_; intro w3 nb m; have st_ := Lib.hid (ST.out.set1 nb m); clear ST nb m; have ST := st_)
      | ((with_reducible refine Step.gate_load (t := 3) rfl ?_); refine Step.load ST.out.one rfl rfl rfl pl_int rfl ?_)
      | ((with_reducible refine Step.gate_load (t := 4) rfl ?_); refine Step.load ST.out.one rfl rfl rfl pl_bool rfl ?_)
      | ((with_reducible refine Step.gate_load (t := 44) rfl ?_); refine Step.loadAll ST.out.one rfl rfl rfl Tryz.underlying44 rfl size_inst ?_))
    refine bodyPost_ret (results_row_tmp rfl _ _ g1 _ _ _ rfl ST.out.one Tryz.underlying44 rfl size_inst) rfl ⟨rfl, ST.out.below⟩
  · subst h
    clear hx
    rw [show sysF 2 s rd rs1 rs2 m = (some ⟨13, 2, rd, rs1, 0, m, 0, false⟩ : Option Ins) from by simp [sysF, csL, pk]]
    go_enter Tryz.func76, Tryz.ntmps76
    go_wp2_with (first
      | (go_at_call 70; (with_reducible refine (T0.out _).mono ?_); rintro e w' ⟨rfl, hb⟩; (try (have pb_ := Lib.hid (PB.out.below hb); clear PB; have PB := pb_)); have st_ := Lib.hid (ST.out.call hb); clear ST hb; have ST := st_)
      | ((with_reducible refine Step.gate_alloc (t := 44) rfl ?_); refine Step.freshAlloc rfl rfl (alloc_agg zero_inst) ?_; intro g1 w1 b hg hb; have ST := Lib.hid (S1.made b hg hb); clear b hg hb)
      | ((with_reducible refine Step.gate_store (t := 3) rfl ?_); refine Step.store ST.out.one rfl rfl rfl rfl rfl pl_int rfl rfl ?_; intro w3 nb m; have st_ := Lib.hid (ST.out.set1 nb m); clear ST nb m; have ST := st_)
      | ((with_reducible refine Step.gate_store (t := 4) rfl ?_); refine Step.store ST.out.one rfl rfl rfl rfl rfl pl_bool rfl rfl ?_; intro w3 nb m; have st_ := Lib.hid (ST.out.set1 nb m); clear ST nb m; have ST := st_)
      | ((with_reducible refine Step.gate_store (t := 44) rfl ?_); refine Step.storeAll ST.out.one rfl rfl rfl rfl rfl size_inst rfl rfl ?_; intro w3 nb m; have st_ := Lib.hid (ST.out.set1 nb m); clear ST nb m; have ST := st_)
      | ((with_reducible refine Step.gate_load (t := 3) rfl ?_); refine Step.load ST.out.one rfl rfl rfl pl_int rfl ?_)
      | ((with_reducible refine Step.gate_load (t := 4) rfl ?_); refine Step.load ST.out.one rfl rfl rfl pl_bool rfl ?_)
      | ((with_reducible refine Step.gate_load (t := 44) rfl ?_); refine Step.loadAll ST.out.one rfl rfl rfl Tryz.underlying44 rfl size_inst ?_))
    refine bodyPost_ret (results_row_tmp rfl _ _ g1 _ _ _ rfl ST.out.one Tryz.underlying44 rfl size_inst) rfl ⟨rfl, ST.out.below⟩
  · subst h
    clear hx
    rw [show sysF 3 s rd rs1 rs2 m = (some ⟨13, 3, rd, rs1, 0, m, 0, false⟩ : Option Ins) from by simp [sysF, csL, pk]]
    go_enter Tryz.func76, Tryz.ntmps76
    go_wp2_with (first
      | (go_at_call 70; (with_reducible refine (T0.out _).mono ?_); rintro e w' ⟨rfl, hb⟩; (try (have pb_ := Lib.hid (PB.out.below hb); clear PB; have PB := pb_)); have st_ := Lib.hid (ST.out.call hb); clear ST hb; have ST := st_)
      | ((with_reducible refine Step.gate_alloc (t := 44) rfl ?_); refine Step.freshAlloc rfl rfl (alloc_agg zero_inst) ?_; intro g1 w1 b hg hb; have ST := Lib.hid (S1.made b hg hb); clear b hg hb)
      | ((with_reducible refine Step.gate_store (t := 3) rfl ?_); refine Step.store ST.out.one rfl rfl rfl rfl rfl pl_int rfl rfl ?_; intro w3 nb m; have st_ := Lib.hid (ST.out.set1 nb m); clear ST nb m; have ST := st_)
      | ((with_reducible refine Step.gate_store (t := 4) rfl ?_); refine Step.store ST.out.one rfl rfl rfl rfl rfl pl_bool rfl rfl ?_; intro w3 nb m; have st_ := Lib.hid (ST.out.set1 nb m); clear ST nb m; have ST := st_)
      | ((with_reducible refine Step.gate_store (t := 44) rfl ?_); refine Step.storeAll ST.out.one rfl rfl rfl rfl rfl size_inst rfl rfl ?_; intro w3 nb m; have st_ := Lib.hid (ST.out.set1 nb m); clear ST nb m; have ST := st_)
      | ((with_reducible refine Step.gate_load (t := 3) rfl ?_); refine Step.load ST.out.one rfl rfl rfl pl_int rfl ?_)
      | ((with_reducible refine Step.gate_load (t := 4) rfl ?_); refine Step.load ST.out.one rfl rfl rfl pl_bool rfl ?_)
      | ((with_reducible refine Step.gate_load (t := 44) rfl ?_); refine Step.loadAll ST.out.one rfl rfl rfl Tryz.underlying44 rfl size_inst ?_))
    refine bodyPost_ret (results_row_tmp rfl _ _ g1 _ _ _ rfl ST.out.one Tryz.underlying44 rfl size_inst) rfl ⟨rfl, ST.out.below⟩
  · subst h
    clear hx
    rw [show sysF 4 s rd rs1 rs2 m = (none : Option Ins) from by simp [sysF, csL, pk]]
    go_enter Tryz.func76, Tryz.ntmps76
    go_wp2_with (first
      | (go_at_call 70; (with_reducible refine (T0.out _).mono ?_); rintro e w' ⟨rfl, hb⟩; (try (have pb_ := Lib.hid (PB.out.below hb); clear PB; have PB := pb_)); have st_ := Lib.hid (ST.out.call hb); clear ST hb; have ST := st_)
      | ((with_reducible refine Step.gate_alloc (t := 44) rfl ?_); refine Step.freshAlloc rfl rfl (alloc_agg zero_inst) ?_; intro g1 w1 b hg hb; have ST := Lib.hid (S1.made b hg hb); clear b hg hb)
      | ((with_reducible refine Step.gate_store (t := 3) rfl ?_); refine Step.store ST.out.one rfl rfl rfl rfl rfl pl_int rfl rfl ?_; intro w3 nb m; have st_ := Lib.hid (ST.out.set1 nb m); clear ST nb m; have ST := st_)
      | ((with_reducible refine Step.gate_store (t := 4) rfl ?_); refine Step.store ST.out.one rfl rfl rfl rfl rfl pl_bool rfl rfl ?_; intro w3 nb m; have st_ := Lib.hid (ST.out.set1 nb m); clear ST nb m; have ST := st_)
      | ((with_reducible refine Step.gate_store (t := 44) rfl ?_); refine Step.storeAll ST.out.one rfl rfl rfl rfl rfl size_inst rfl rfl ?_; intro w3 nb m; have st_ := Lib.hid (ST.out.set1 nb m); clear ST nb m; have ST := st_)
      | ((with_reducible refine Step.gate_load (t := 3) rfl ?_); refine Step.load ST.out.one rfl rfl rfl pl_int rfl ?_)
      | ((with_reducible refine Step.gate_load (t := 4) rfl ?_); refine Step.load ST.out.one rfl rfl rfl pl_bool rfl ?_)
      | ((with_reducible refine Step.gate_load (t := 44) rfl ?_); refine Step.loadAll ST.out.one rfl rfl rfl Tryz.underlying44 rfl size_inst ?_))
    refine bodyPost_ret (results_row_tmp rfl _ _ g1 _ _ _ rfl ST.out.one Tryz.underlying44 rfl size_inst) rfl ⟨rfl, ST.out.below⟩
  · subst h
    clear hx
    rw [show sysF 5 s rd rs1 rs2 m = (some ⟨14, 1, rd, rs1, 0, m, 0, false⟩ : Option Ins) from by simp [sysF, csL, pk]]
    go_enter Tryz.func76, Tryz.ntmps76
    go_wp2_with (first
      | (go_at_call 70; (with_reducible refine (T0.out _).mono ?_); rintro e w' ⟨rfl, hb⟩; (try (have pb_ := Lib.hid (PB.out.below hb); clear PB; have PB := pb_)); have st_ := Lib.hid (ST.out.call hb); clear ST hb; have ST := st_)
      | ((with_reducible refine Step.gate_alloc (t := 44) rfl ?_); refine Step.freshAlloc rfl rfl (alloc_agg zero_inst) ?_; intro g1 w1 b hg hb; have ST := Lib.hid (S1.made b hg hb); clear b hg hb)
      | ((with_reducible refine Step.gate_store (t := 3) rfl ?_); refine Step.store ST.out.one rfl rfl rfl rfl rfl pl_int rfl rfl ?_; intro w3 nb m; have st_ := Lib.hid (ST.out.set1 nb m); clear ST nb m; have ST := st_)
      | ((with_reducible refine Step.gate_store (t := 4) rfl ?_); refine Step.store ST.out.one rfl rfl rfl rfl rfl pl_bool rfl rfl ?_; intro w3 nb m; have st_ := Lib.hid (ST.out.set1 nb m); clear ST nb m; have ST := st_)
      | ((with_reducible refine Step.gate_store (t := 44) rfl ?_); refine Step.storeAll ST.out.one rfl rfl rfl rfl rfl size_inst rfl rfl ?_; intro w3 nb m; have st_ := Lib.hid (ST.out.set1 nb m); clear ST nb m; have ST := st_)
      | ((with_reducible refine Step.gate_load (t := 3) rfl ?_); refine Step.load ST.out.one rfl rfl rfl pl_int rfl ?_)
      | ((with_reducible refine Step.gate_load (t := 4) rfl ?_); refine Step.load ST.out.one rfl rfl rfl pl_bool rfl ?_)
      | ((with_reducible refine Step.gate_load (t := 44) rfl ?_); refine Step.loadAll ST.out.one rfl rfl rfl Tryz.underlying44 rfl size_inst ?_))
    refine bodyPost_ret (results_row_tmp rfl _ _ g1 _ _ _ rfl ST.out.one Tryz.underlying44 rfl size_inst) rfl ⟨rfl, ST.out.below⟩
  · subst h
    clear hx
    rw [show sysF 6 s rd rs1 rs2 m = (some ⟨14, 2, rd, rs1, 0, m, 0, false⟩ : Option Ins) from by simp [sysF, csL, pk]]
    go_enter Tryz.func76, Tryz.ntmps76
    go_wp2_with (first
      | (go_at_call 70; (with_reducible refine (T0.out _).mono ?_); rintro e w' ⟨rfl, hb⟩; (try (have pb_ := Lib.hid (PB.out.below hb); clear PB; have PB := pb_)); have st_ := Lib.hid (ST.out.call hb); clear ST hb; have ST := st_)
      | ((with_reducible refine Step.gate_alloc (t := 44) rfl ?_); refine Step.freshAlloc rfl rfl (alloc_agg zero_inst) ?_; intro g1 w1 b hg hb; have ST := Lib.hid (S1.made b hg hb); clear b hg hb)
      | ((with_reducible refine Step.gate_store (t := 3) rfl ?_); refine Step.store ST.out.one rfl rfl rfl rfl rfl pl_int rfl rfl ?_; intro w3 nb m; have st_ := Lib.hid (ST.out.set1 nb m); clear ST nb m; have ST := st_)
      | ((with_reducible refine Step.gate_store (t := 4) rfl ?_); refine Step.store ST.out.one rfl rfl rfl rfl rfl pl_bool rfl rfl ?_; intro w3 nb m; have st_ := Lib.hid (ST.out.set1 nb m); clear ST nb m; have ST := st_)
      | ((with_reducible refine Step.gate_store (t := 44) rfl ?_); refine Step.storeAll ST.out.one rfl rfl rfl rfl rfl size_inst rfl rfl ?_; intro w3 nb m; have st_ := Lib.hid (ST.out.set1 nb m); clear ST nb m; have ST := st_)
      | ((with_reducible refine Step.gate_load (t := 3) rfl ?_); refine Step.load ST.out.one rfl rfl rfl pl_int rfl ?_)
      | ((with_reducible refine Step.gate_load (t := 4) rfl ?_); refine Step.load ST.out.one rfl rfl rfl pl_bool rfl ?_)
      | ((with_reducible refine Step.gate_load (t := 44) rfl ?_); refine Step.loadAll ST.out.one rfl rfl rfl Tryz.underlying44 rfl size_inst ?_))
    refine bodyPost_ret (results_row_tmp rfl _ _ g1 _ _ _ rfl ST.out.one Tryz.underlying44 rfl size_inst) rfl ⟨rfl, ST.out.below⟩
  · subst h
    clear hx
    rw [show sysF 7 s rd rs1 rs2 m = (some ⟨14, 3, rd, rs1, 0, m, 0, false⟩ : Option Ins) from by simp [sysF, csL, pk]]
    go_enter Tryz.func76, Tryz.ntmps76
    go_wp2_with (first
      | (go_at_call 70; (with_reducible refine (T0.out _).mono ?_); rintro e w' ⟨rfl, hb⟩; (try (have pb_ := Lib.hid (PB.out.below hb); clear PB; have PB := pb_)); have st_ := Lib.hid (ST.out.call hb); clear ST hb; have ST := st_)
      | ((with_reducible refine Step.gate_alloc (t := 44) rfl ?_); refine Step.freshAlloc rfl rfl (alloc_agg zero_inst) ?_; intro g1 w1 b hg hb; have ST := Lib.hid (S1.made b hg hb); clear b hg hb)
      | ((with_reducible refine Step.gate_store (t := 3) rfl ?_); refine Step.store ST.out.one rfl rfl rfl rfl rfl pl_int rfl rfl ?_; intro w3 nb m; have st_ := Lib.hid (ST.out.set1 nb m); clear ST nb m; have ST := st_)
      | ((with_reducible refine Step.gate_store (t := 4) rfl ?_); refine Step.store ST.out.one rfl rfl rfl rfl rfl pl_bool rfl rfl ?_; intro w3 nb m; have st_ := Lib.hid (ST.out.set1 nb m); clear ST nb m; have ST := st_)
      | ((with_reducible refine Step.gate_store (t := 44) rfl ?_); refine Step.storeAll ST.out.one rfl rfl rfl rfl rfl size_inst rfl rfl ?_; intro w3 nb m; have st_ := Lib.hid (ST.out.set1 nb m); clear ST nb m; have ST := st_)
      | ((with_reducible refine Step.gate_load (t := 3) rfl ?_); refine Step.load ST.out.one rfl rfl rfl pl_int rfl ?_)
      | ((with_reducible refine Step.gate_load (t := 4) rfl ?_); refine Step.load ST.out.one rfl rfl rfl pl_bool rfl ?_)
      | ((with_reducible refine Step.gate_load (t := 44) rfl ?_); refine Step.loadAll ST.out.one rfl rfl rfl Tryz.underlying44 rfl size_inst ?_))
    refine bodyPost_ret (results_row_tmp rfl _ _ g1 _ _ _ rfl ST.out.one Tryz.underlying44 rfl size_inst) rfl ⟨rfl, ST.out.below⟩
end Go.Proofs.YthkodjkkcgdmfaaGreat.Enc
end
section
namespace Go.Proofs.YthkodjkkcgdmfaaGreat.Enc
open Go Go.RowKit Go.Proofs.YthkodjkkcgdmfaaGreat.Step
set_option linter.unusedVariables false
set_option linter.unusedSimpArgs false
set_option maxRecDepth 100000
set_option maxHeartbeats 8000000 in
theorem rdec_115_of (a : Int) (ha : W32 a) (hop : fd a 6 0 = 115) (d : Option Ins) (TS : Hid (∀ w, Calls Tryz.prog 76 #[.int .u32 a, .int .i64 (fd a 14 12), .int .i64 (fd a 31 25), .int .i64 (fd a 11 7), .int .i64 (fd a 19 15), .int .i64 (fd a 24 20)] w fun e w' => e = .returned (told d) ∧ Below w.heap.size w w')) (w : World) : Calls Tryz.prog 45 #[.int .u32 a] w fun e w' => e = .returned (told d) ∧ Below w.heap.size w w' := by
  have T0 := Lib.hid (fun w => calls_below (rbits_any a 14 12 14 12 ha rfl rfl (by decide) (by decide) w))
  have T1 := Lib.hid (fun w => calls_below (rbits_any a 31 25 31 25 ha rfl rfl (by decide) (by decide) w))
  have T2 := Lib.hid (fun w => calls_below (rbits_any a 11 7 11 7 ha rfl rfl (by decide) (by decide) w))
  have T3 := Lib.hid (fun w => calls_below (rbits_any a 19 15 19 15 ha rfl rfl (by decide) (by decide) w))
  have T4 := Lib.hid (fun w => calls_below (rbits_any a 24 20 24 20 ha rfl rfl (by decide) (by decide) w))
  have T5 := Lib.hid (fun w => calls_below (rbits_any a 31 26 31 26 ha rfl rfl (by decide) (by decide) w))
  have T6 := Lib.hid (fun w => calls_below (rbits_any a 25 20 25 20 ha rfl rfl (by decide) (by decide) w))
  have TO := Lib.hid (fun w => calls_below (rbits_any a 6 0 6 0 ha rfl rfl (by decide) (by decide) w))
  have HX := Lib.hid (fd_lit (a := a) (h := 14) (l := 12) (n := 8) rfl)
  rw [hop] at TO
  clear hop
  generalize fd a 14 12 = x at *
  generalize fd a 31 25 = s at *
  generalize fd a 11 7 = rd at *
  generalize fd a 19 15 = rs1 at *
  generalize fd a 24 20 = rs2 at *
  generalize fd a 31 26 = hi at *
  generalize fd a 25 20 = sh at *
  have hs : ∃ r1 r2 r3 r4 r5 r6 r7 r8 r9, told d = .tuple #[.agg #[.int .i64 r1, .int .i64 r2, .int .i64 r3, .int .i64 r4, .int .i64 r5, .int .i64 r6, .int .i64 r7, .bool r8], .bool r9] := by
    cases d with
    | none => exact ⟨_, _, _, _, _, _, _, _, _, rfl⟩
    | some j => exact ⟨_, _, _, _, _, _, _, _, _, rfl⟩
  obtain ⟨r1, r2, r3, r4, r5, r6, r7, r8, r9, hs⟩ := hs
  rw [hs] at TS ⊢
  clear hs
  go_enter Tryz.func45, Tryz.ntmps45
  go_wp2_with (first
    | (go_at_call 70; (with_reducible refine (T0.out _).mono ?_); rintro e w' ⟨rfl, hb⟩; (try replace PB := Lib.hid (PB.out.below hb)); replace ST := Lib.hid (ST.out.call hb); clear hb)
    | (go_at_call 70; (with_reducible refine (T1.out _).mono ?_); rintro e w' ⟨rfl, hb⟩; (try replace PB := Lib.hid (PB.out.below hb)); replace ST := Lib.hid (ST.out.call hb); clear hb)
    | (go_at_call 70; (with_reducible refine (T2.out _).mono ?_); rintro e w' ⟨rfl, hb⟩; (try replace PB := Lib.hid (PB.out.below hb)); replace ST := Lib.hid (ST.out.call hb); clear hb)
    | (go_at_call 70; (with_reducible refine (T3.out _).mono ?_); rintro e w' ⟨rfl, hb⟩; (try replace PB := Lib.hid (PB.out.below hb)); replace ST := Lib.hid (ST.out.call hb); clear hb)
    | (go_at_call 70; (with_reducible refine (T4.out _).mono ?_); rintro e w' ⟨rfl, hb⟩; (try replace PB := Lib.hid (PB.out.below hb)); replace ST := Lib.hid (ST.out.call hb); clear hb)
    | (go_at_call 70; (with_reducible refine (T5.out _).mono ?_); rintro e w' ⟨rfl, hb⟩; (try replace PB := Lib.hid (PB.out.below hb)); replace ST := Lib.hid (ST.out.call hb); clear hb)
    | (go_at_call 70; (with_reducible refine (T6.out _).mono ?_); rintro e w' ⟨rfl, hb⟩; (try replace PB := Lib.hid (PB.out.below hb)); replace ST := Lib.hid (ST.out.call hb); clear hb)
    | (go_at_call 70; (with_reducible refine (TO.out _).mono ?_); rintro e w' ⟨rfl, hb⟩; (try replace PB := Lib.hid (PB.out.below hb)); replace ST := Lib.hid (ST.out.call hb); clear hb)
    | (go_at_call 76; (with_reducible refine (TS.out _).mono ?_); rintro e w' ⟨rfl, hb⟩; (try replace PB := Lib.hid (PB.out.below hb)); replace ST := Lib.hid (ST.out.call hb); clear hb)
    | ((with_reducible refine Step.gate_alloc (t := 44) rfl ?_); refine Step.freshAlloc rfl rfl (alloc_agg zero_inst) ?_; intro g2 w2 b hg hb; replace ST := Lib.hid (ST.out.more b hg hb); clear b hg hb)
    | ((with_reducible refine Step.gate_alloc (t := 44) rfl ?_); refine Step.freshAlloc rfl rfl (alloc_agg zero_inst) ?_; intro g1 w1 b hg hb; have ST := Lib.hid (S1.made b hg hb); clear b hg hb)
    | ((with_reducible refine Step.gate_store (t := 3) rfl ?_); refine Step.store ST.out.one rfl rfl rfl rfl rfl pl_int rfl rfl ?_; intro w3 nb m; replace ST := Lib.hid (ST.out.set1 nb m); clear nb m)
    | ((with_reducible refine Step.gate_store (t := 4) rfl ?_); refine Step.store ST.out.one rfl rfl rfl rfl rfl pl_bool rfl rfl ?_; intro w3 nb m; replace ST := Lib.hid (ST.out.set1 nb m); clear nb m)
    | ((with_reducible refine Step.gate_store (t := 44) rfl ?_); refine Step.storeAll ST.out.one rfl rfl rfl rfl rfl size_inst rfl rfl ?_; intro w3 nb m; replace ST := Lib.hid (ST.out.set1 nb m); clear nb m)
    | ((with_reducible refine Step.gate_load (t := 3) rfl ?_); refine Step.load ST.out.one rfl rfl rfl pl_int rfl ?_)
    | ((with_reducible refine Step.gate_load (t := 4) rfl ?_); refine Step.load ST.out.one rfl rfl rfl pl_bool rfl ?_)
    | ((with_reducible refine Step.gate_load (t := 44) rfl ?_); refine Step.loadAll ST.out.one rfl rfl rfl Tryz.underlying44 rfl size_inst ?_)
    | ((with_reducible refine Step.gate_store (t := 3) rfl ?_); refine Step.store ST.out.two rfl rfl rfl rfl rfl pl_int rfl rfl ?_; intro w3 nb m; replace ST := Lib.hid (ST.out.set2 nb m); clear nb m)
    | ((with_reducible refine Step.gate_store (t := 4) rfl ?_); refine Step.store ST.out.two rfl rfl rfl rfl rfl pl_bool rfl rfl ?_; intro w3 nb m; replace ST := Lib.hid (ST.out.set2 nb m); clear nb m)
    | ((with_reducible refine Step.gate_store (t := 44) rfl ?_); refine Step.storeAll ST.out.two rfl rfl rfl rfl rfl size_inst rfl rfl ?_; intro w3 nb m; replace ST := Lib.hid (ST.out.set2 nb m); clear nb m)
    | ((with_reducible refine Step.gate_load (t := 3) rfl ?_); refine Step.load ST.out.two rfl rfl rfl pl_int rfl ?_)
    | ((with_reducible refine Step.gate_load (t := 4) rfl ?_); refine Step.load ST.out.two rfl rfl rfl pl_bool rfl ?_)
    | ((with_reducible refine Step.gate_load (t := 44) rfl ?_); refine Step.loadAll ST.out.two rfl rfl rfl Tryz.underlying44 rfl size_inst ?_))
  refine bodyPost_ret (results_row_tmp rfl _ _ g1 _ _ _ rfl ST.out.one Tryz.underlying44 rfl size_inst) rfl ⟨rfl, ST.out.below⟩
end Go.Proofs.YthkodjkkcgdmfaaGreat.Enc
end
section
namespace Go.Proofs.YthkodjkkcgdmfaaGreat.Enc
open Go Go.RowKit Go.Proofs.YthkodjkkcgdmfaaGreat.Step
set_option linter.unusedVariables false
set_option linter.unusedSimpArgs false
set_option maxRecDepth 100000
section
variable {P : Program} {ops : Array Oper} {rest : List Oper} {o : Oper} {a : Act} {W : World} {Q : Exit → Act → World → Prop}
/-- A variable of several cells is read, by an operation whose guard says yes. -/
theorem loadAllW {t : TypeId} {x : Operand} {g : Nat} {cs : Array Value} {T : TypeId} {d : TypeDesc} (hB : Blk W g cs T) (hw : Region.wanted o (yielded ops a.tmps) = true) (ho : o.op = .load t x) (hx : a.eval x = .pointer (some ⟨g, 0, none⟩)) (hu : P.underlying t = some d)
    (hd : (match d with | .struct _ | .array _ _ => true | _ => false) = true) (hi : (P.info? t).map (·.size) = some cs.size) (h : wpList P ops Q rest (a.put o.dst (.agg cs)) W) : wpList P ops Q (o :: rest) a W := by
  refine BigFrame.wpList_want hw fun K hK => ?_
  have h1 := run_loadVar_row (P := P) W g T t cs (0, 0) d hB.out hu hd hi
  have h2 : (execOp a.eval o).run P W = .ok (.value (.agg cs)) W := by simp [execOp, ho, hx, Instr.loadAt, Instr.sureAddr, h1, Result.andThen]
  unfold Oper.wp; rw [h2]; exact hK _ _ h
end
end Go.Proofs.YthkodjkkcgdmfaaGreat.Enc
end
section
namespace Go.Proofs.YthkodjkkcgdmfaaGreat.Enc
open Go Go.RowKit Go.Proofs.YthkodjkkcgdmfaaGreat.Step
set_option linter.unusedVariables false
set_option linter.unusedSimpArgs false
set_option maxRecDepth 100000
section
variable {P : Program} {ops : Array Oper} {rest : List Oper} {o : Oper} {a : Act} {W : World} {Q : Exit → Act → World → Prop}
/-- A cell is read, by an operation whose guard says yes. -/
theorem loadW1 {t : TypeId} {x : Operand} {g i : Nat} {cs : Array Value} {T : TypeId} {v : Value} (hB : Blk W g cs T) (hw : Region.wanted o (yielded ops a.tmps) = true) (ho : o.op = .load t x) (hx : a.eval x = .pointer (some ⟨g, i, none⟩)) (ht : plainT P t = true) (hv : cs[i]? = some v)
    (h : wpList P ops Q rest (a.put o.dst v) W) : wpList P ops Q (o :: rest) a W := by
  refine BigFrame.wpList_want hw fun K hK => ?_
  have h1 := run_load1 (P := P) ht ((hB.cell i).trans hv)
  have h2 : (execOp a.eval o).run P W = .ok (.value v) W := by simp [execOp, ho, hx, h1, Result.andThen]
  unfold Oper.wp; rw [h2]; exact hK _ _ h
end
/-- The fields are within the document's bounds. -/
def InR (i : Ins) : Prop := (-2147483648 ≤ i.imm ∧ i.imm < 2147483648) ∧ (0 ≤ i.rd ∧ i.rd ≤ 31) ∧ (0 ≤ i.rs1 ∧ i.rs1 ≤ 31) ∧ (0 ≤ i.rs2 ∧ i.rs2 ≤ 31) ∧ (0 ≤ i.fn ∧ i.fn ≤ 28) ∧ (0 ≤ i.sz ∧ i.sz ≤ 8)
end Go.Proofs.YthkodjkkcgdmfaaGreat.Enc
end
section
namespace Go.Proofs.YthkodjkkcgdmfaaGreat.Enc
open Go Go.RowKit
set_option linter.unusedVariables false
set_option linter.unusedSimpArgs false
set_option maxRecDepth 100000
theorem pk_rng (L : List Int) (m : Int) (hm : 0 ≤ m) (h : ∀ v ∈ L, 0 ≤ v ∧ v ≤ m) (x : Int) : 0 ≤ pk L x ∧ pk L x ≤ m := by
  unfold pk
  split
  · exact ⟨Int.le_refl _, hm⟩
  · by_cases hk : x.toNat < L.length
    · have : L.getD x.toNat 0 = L[x.toNat] := by simp [List.getD, List.getElem?_eq_getElem hk]
      rw [this]; exact h _ (List.getElem_mem hk)
    · have : L.getD x.toNat 0 = 0 := by simp [List.getD, List.getElem?_eq_none (show L.length ≤ x.toNat by omega)]
      rw [this]; exact ⟨Int.le_refl _, hm⟩
theorem regF_rng (wide : Bool) (s x : Int) : 0 ≤ regF wide s x ∧ regF wide s x ≤ 28 := by
  unfold regF
  repeat' split
  all_goals first
    | exact pk_rng _ 28 (by decide) (by decide) x
    | exact ⟨by decide, by decide⟩
theorem im13_fn (hi x sh m : Int) : 0 ≤ (im13 hi x sh m).1 ∧ (im13 hi x sh m).1 ≤ 28 := by
  unfold im13
  repeat' split
  all_goals first
    | exact pk_rng _ 28 (by decide) (by decide) x
    | (dsimp only; decide)
theorem im1b_fn (s x sh m : Int) : 0 ≤ (im1b s x sh m).1 ∧ (im1b s x sh m).1 ≤ 28 := by
  unfold im1b
  repeat' split
  all_goals (dsimp only; decide)
theorem atF_fn (f r : Int) : 0 ≤ (atF f r).2.1 ∧ (atF f r).2.1 ≤ 28 := by
  unfold atF
  repeat' split
  all_goals first
    | exact pk_rng _ 28 (by decide) (by decide) _
    | (dsimp only; decide)
theorem z28 : (0 : Int) ≤ 0 ∧ (0 : Int) ≤ 28 := by decide
theorem dec_fn {a : Int} {i : Ins} (h : dec a = some i) : 0 ≤ i.fn ∧ i.fn ≤ 28 := by
  unfold dec decOp at h
  rcases ite_some h with ⟨c, h⟩ | ⟨_, h⟩
  · injection h with h; subst h; exact z28
  rcases ite_some h with ⟨c, h⟩ | ⟨_, h⟩
  · injection h with h; subst h; exact z28
  rcases ite_some h with ⟨c, h⟩ | ⟨_, h⟩
  · injection h with h; subst h; exact z28
  rcases ite_some h with ⟨_, h⟩ | ⟨_, h⟩
  · rcases ite_some h with ⟨c, h⟩ | ⟨_, h⟩
    · injection h with h; subst h; exact z28
    · cases h
  rcases ite_some h with ⟨_, h⟩ | ⟨_, h⟩
  · rcases ite_some h with ⟨_, h⟩ | ⟨c, h⟩
    · cases h
    · injection h with h; subst h; exact pk_rng brL 28 (by decide) (by decide) _
  rcases ite_some h with ⟨_, h⟩ | ⟨_, h⟩
  · rcases ite_some h with ⟨c, h⟩ | ⟨_, h⟩
    · injection h with h; subst h; exact z28
    · cases h
  rcases ite_some h with ⟨_, h⟩ | ⟨_, h⟩
  · rcases ite_some h with ⟨c, h⟩ | ⟨_, h⟩
    · injection h with h; subst h; exact z28
    · cases h
  rcases ite_some h with ⟨_, h⟩ | ⟨_, h⟩
  · rcases ite_some h with ⟨c, h⟩ | ⟨_, h⟩
    · injection h with h; subst h; exact im13_fn _ _ _ _
    · cases h
  rcases ite_some h with ⟨_, h⟩ | ⟨_, h⟩
  · rcases ite_some h with ⟨c, h⟩ | ⟨_, h⟩
    · injection h with h; subst h; exact im1b_fn _ _ _ _
    · cases h
  rcases ite_some h with ⟨_, h⟩ | ⟨_, h⟩
  · rcases ite_some h with ⟨_, h⟩ | ⟨c, h⟩
    · cases h
    · injection h with h; subst h; exact regF_rng true (fd a 31 25) (fd a 14 12)
  rcases ite_some h with ⟨_, h⟩ | ⟨_, h⟩
  · rcases ite_some h with ⟨_, h⟩ | ⟨c, h⟩
    · cases h
    · injection h with h; subst h; exact regF_rng false (fd a 31 25) (fd a 14 12)
  rcases ite_some h with ⟨_, h⟩ | ⟨_, h⟩
  · rcases ite_some h with ⟨c, h⟩ | ⟨_, h⟩
    · injection h with h; subst h; exact z28
    · cases h
  rcases ite_some h with ⟨_, h⟩ | ⟨_, h⟩
  · unfold sysD at h
    rcases ite_some h with ⟨c, h⟩ | ⟨_, h⟩
    · injection h with h; subst h; exact z28
    rcases ite_some h with ⟨c, h⟩ | ⟨_, h⟩
    · injection h with h; subst h; exact z28
    rcases ite_some h with ⟨c, h⟩ | ⟨_, h⟩
    · injection h with h; subst h; exact z28
    rcases ite_some h with ⟨c, h⟩ | ⟨_, h⟩
    · injection h with h; subst h; exact z28
    rcases ite_some h with ⟨_, h⟩ | ⟨_, h⟩
    · rcases ite_some h with ⟨c, h⟩ | ⟨_, h⟩
      · injection h with h; subst h; exact z28
      · cases h
    rcases ite_some h with ⟨_, h⟩ | ⟨_, h⟩
    · cases h
    · injection h with h; subst h; exact pk_rng csL 28 (by decide) (by decide) _
  rcases ite_some h with ⟨_, h⟩ | ⟨_, h⟩
  · unfold atD at h
    rcases ite_some h with ⟨_, h⟩ | ⟨_, h⟩
    · rcases ite_some h with ⟨c, h⟩ | ⟨_, h⟩
      · injection h with h; subst h; exact atF_fn _ _
      · cases h
    · cases h
  · cases h
def wordP (i : Ins) : Int := wordF i.k i.fn i.rd i.rs1 i.rs2 i.imm i.sz i.sg
theorem p0 (n l : Nat) : pt 0 n l = 0 := pt0 n l
theorem reg1 (rd : Int) : regW rd 0 0 = pt rd 5 7 := by
  unfold regW
  rw [p0, p0, bor_zero (pt_bd rd 5 7 (by decide)), bor_zero (pt_bd rd 5 7 (by decide))]
theorem reg2 (rd rs1 : Int) : regW rd rs1 0 = bor (pt rd 5 7) (pt rs1 5 15) := by
  unfold regW
  rw [p0, bor_zero (bor_w _ _).out]
theorem reg3 (rs1 rs2 : Int) : regW 0 rs1 rs2 = bor (pt rs1 5 15) (pt rs2 5 20) := by
  unfold regW
  rw [p0, bor_comm 0, bor_zero (pt_bd rs1 5 15 (by decide))]
theorem sz_ld {s : Int} (h : s = 1 ∨ s = 2 ∨ s = 4 ∨ s = 8) : pk szL s * 4096 = pt (ix ld4 s) 3 12 ∧ (pk szL s + 4) * 4096 = pt (ix ld4 s + 4) 3 12 := by
  rcases h with h | h | h | h <;> (subst h; exact ⟨rfl, rfl⟩)
theorem sz_at {s : Int} (h : s = 4 ∨ s = 8) : pk szL s * 4096 = pt (ix at2 s + 2) 3 12 := by
  rcases h with h | h <;> (subst h; rfl)
theorem br_w : ∀ x : Fin 7, x.val ≠ 0 → pk bwL (x.val : Int) = ix brI (x.val : Int) := by decide
theorem am_w : ∀ x : Fin 10, x.val ≠ 0 → pk amW (x.val : Int) = ix amL (x.val : Int) := by decide
theorem rw_al : ∀ x : Fin 29, x.val ≠ 0 → pk rwL (x.val : Int) = bor (if 19 ≤ (x.val : Int) then 59 else 51) (al (x.val : Int)) := by decide
theorem and_reg {rd rs1 : Int} (h1 : 0 ≤ rd ∧ rd < 32) (h2 : 0 ≤ rs1 ∧ rs1 < 32) : bits .and .u32 (regW rd rs1 0) 1048575 = bor (pt rd 5 7) (pt rs1 5 15) := by
  rw [reg2]
  have e1 : pt rd 5 7 = rd * 128 := pt_of 5 7 32 128 rd rfl rfl (by omega)
  have e2 : pt rs1 5 15 = rs1 * 32768 := pt_of 5 15 32 32768 rs1 rfl rfl (by omega)
  rw [e1, e2]
  have zs : bor (rd * 128) (rs1 * 32768) = rd * 128 + rs1 * 32768 := bor_step 15 32768 rfl ⟨by omega, by omega⟩ (by omega) (by omega) (by decide)
  have h := u32_mask (rd * 128 + rs1 * 32768) 20 (by decide) (by omega)
  rw [zs]
  exact h.trans (by show _ % (1048576 : Int) = _; omega)
theorem pt_12 {v : Int} (n : Nat) (N : Int) (hN : N = (2 ^ n : Nat)) (hv : 0 ≤ v ∧ v < N) (h12 : N ≤ 4096) : pt v 12 20 = pt v n 20 := by
  subst hN
  have e : v % ((2 ^ n : Nat) : Int) = v := Int.emod_eq_of_lt hv.1 hv.2
  have e2 : v % ((2 ^ 12 : Nat) : Int) = v := Int.emod_eq_of_lt hv.1 (by show v < 4096; omega)
  unfold pt
  rw [e, e2]
theorem fin_of {x : Int} {n : Nat} (h : 0 ≤ x ∧ x < n) : ∃ y : Fin n, (y.val : Int) = x := ⟨⟨x.toNat, by omega⟩, by show ((x.toNat : Nat) : Int) = x; omega⟩
theorem word_alu {f rd rs1 rs2 : Int} (hf : 0 ≤ f ∧ f ≤ 28) (c : ¬ f = 0) : wordP ⟨8, f, rd, rs1, rs2, 0, 0, false⟩ = encP ⟨8, f, rd, rs1, rs2, 0, 0, false⟩ := by
  obtain ⟨y, hy⟩ := fin_of (n := 29) (x := f) (by omega)
  have e := rw_al y (by intro h0; rw [h0] at hy; exact c hy.symm)
  rw [hy] at e
  show (if 19 ≤ f then bor (bor 59 (al f)) (regW rd rs1 rs2) else bor (bor 51 (al f)) (regW rd rs1 rs2)) = bor (pk rwL f) (regW rd rs1 rs2)
  rw [e]
  split <;> rfl
theorem word_enc {a : Int} {i : Ins} (ha : W32 a) (h : dec a = some i) : wordP i = encP i := by
  have b1 := fd_lit (a := a) (h := 11) (l := 7) (n := 32) rfl
  have b2 := fd_lit (a := a) (h := 19) (l := 15) (n := 32) rfl
  have b3 := fd_lit (a := a) (h := 24) (l := 20) (n := 32) rfl
  have b4 := fd_lit (a := a) (h := 14) (l := 12) (n := 8) rfl
  have b6 := fd_lit (a := a) (h := 25) (l := 20) (n := 64) rfl
  have hf := dec_fn h
  unfold dec decOp at h
  rcases ite_some h with ⟨c, h⟩ | ⟨_, h⟩
  · injection h with h; subst h
    show bor (bor 55 (pt (fd a 11 7) 5 7)) _ = bor (bor 55 (regW (fd a 11 7) 0 0)) _
    rw [reg1]
  rcases ite_some h with ⟨c, h⟩ | ⟨_, h⟩
  · injection h with h; subst h
    show bor (bor 23 (pt (fd a 11 7) 5 7)) _ = bor (bor 23 (regW (fd a 11 7) 0 0)) _
    rw [reg1]
  rcases ite_some h with ⟨c, h⟩ | ⟨_, h⟩
  · injection h with h; subst h
    show bor (bor 111 (pt (fd a 11 7) 5 7)) (bor (bor (bor _ _) _) _) = bor (bor (bor (bor (bor 111 (regW (fd a 11 7) 0 0)) _) _) _) _
    rw [reg1]
    ac_rfl
  rcases ite_some h with ⟨_, h⟩ | ⟨_, h⟩
  · rcases ite_some h with ⟨c, h⟩ | ⟨_, h⟩
    · injection h with h; subst h
      show bor (bor (bor 103 (pt (fd a 11 7) 5 7)) (pt (fd a 19 15) 5 15)) _ = bor (bor 103 (regW (fd a 11 7) (fd a 19 15) 0)) _
      rw [reg2]
      ac_rfl
    · cases h
  rcases ite_some h with ⟨_, h⟩ | ⟨_, h⟩
  · rcases ite_some h with ⟨_, h⟩ | ⟨c, h⟩
    · cases h
    · injection h with h; subst h
      obtain ⟨y, hy⟩ := fin_of (n := 7) (x := pk brL (fd a 14 12)) (by have := pk_rng brL 6 (by decide) (by decide) (fd a 14 12); omega)
      have e := br_w y (by intro h0; rw [h0] at hy; exact c hy.symm)
      rw [hy] at e
      show bor (bor (bor (bor 99 (pt (pk bwL (pk brL (fd a 14 12))) 3 12)) (pt (fd a 19 15) 5 15)) (pt (fd a 24 20) 5 20)) (bor (bor (bor _ _) _) _) = bor (bor (bor (bor (bor (bor 99 (regW 0 (fd a 19 15) (fd a 24 20))) (pt (ix brI (pk brL (fd a 14 12))) 3 12)) _) _) _) _
      rw [reg3, e]
      ac_rfl
  rcases ite_some h with ⟨_, h⟩ | ⟨_, h⟩
  · rcases ite_some h with ⟨c, h⟩ | ⟨_, h⟩
    · injection h with h; subst h
      have hs : pk ldL (fd a 14 12) = 1 ∨ pk ldL (fd a 14 12) = 2 ∨ pk ldL (fd a 14 12) = 4 ∨ pk ldL (fd a 14 12) = 8 := by
        generalize fd a 14 12 = x at *
        obtain h | h | h | h | h | h | h : x = 0 ∨ x = 1 ∨ x = 2 ∨ x = 3 ∨ x = 4 ∨ x = 5 ∨ x = 6 := by omega
        all_goals (subst h; decide)
      have e := sz_ld hs
      by_cases hx : fd a 14 12 < 4
      · rw [decide_eq_true hx]
        show bor (bor (bor (bor 3 (pk szL (pk ldL (fd a 14 12)) * 4096)) (pt (fd a 11 7) 5 7)) (pt (fd a 19 15) 5 15)) _ = bor (bor (bor 3 (regW (fd a 11 7) (fd a 19 15) 0)) (pt (ix ld4 (pk ldL (fd a 14 12))) 3 12)) _
        rw [reg2, e.1]
        ac_rfl
      · rw [decide_eq_false hx]
        show bor (bor (bor (bor 3 ((pk szL (pk ldL (fd a 14 12)) + 4) * 4096)) (pt (fd a 11 7) 5 7)) (pt (fd a 19 15) 5 15)) _ = bor (bor (bor 3 (regW (fd a 11 7) (fd a 19 15) 0)) (pt (ix ld4 (pk ldL (fd a 14 12)) + 4) 3 12)) _
        rw [reg2, e.2]
        ac_rfl
    · cases h
  rcases ite_some h with ⟨_, h⟩ | ⟨_, h⟩
  · rcases ite_some h with ⟨c, h⟩ | ⟨_, h⟩
    · injection h with h; subst h
      have hs : pk stL (fd a 14 12) = 1 ∨ pk stL (fd a 14 12) = 2 ∨ pk stL (fd a 14 12) = 4 ∨ pk stL (fd a 14 12) = 8 := by
        generalize fd a 14 12 = x at *
        obtain h | h | h | h : x = 0 ∨ x = 1 ∨ x = 2 ∨ x = 3 := by omega
        all_goals (subst h; decide)
      have e := sz_ld hs
      show bor (bor (bor (bor (bor 35 (pk szL (pk stL (fd a 14 12)) * 4096)) (pt (fd a 19 15) 5 15)) (pt (fd a 24 20) 5 20)) _) _ = bor (bor (bor (bor 35 (regW 0 (fd a 19 15) (fd a 24 20))) (pt (ix ld4 (pk stL (fd a 14 12))) 3 12)) _) _
      rw [reg3, e.1]
      ac_rfl
    · cases h
  rcases ite_some h with ⟨_, h⟩ | ⟨_, h⟩
  · rcases ite_some h with ⟨c2, h⟩ | ⟨_, h⟩
    · injection h with h; subst h
      clear hf
      unfold im13 at c2 ⊢
      by_cases h1 : fd a 14 12 = 1
      · simp only [if_pos h1] at c2 ⊢
        by_cases h0 : fd a 31 26 = 0
        · simp only [if_pos h0]
          show bor (bor (bor (bor 19 (al 3)) (pt (fd a 11 7) 5 7)) (pt (fd a 19 15) 5 15)) (pt (fd a 25 20) 12 20) = bor (bor 4115 (pt (fd a 25 20) 6 20)) (regW (fd a 11 7) (fd a 19 15) 0)
          rw [reg2, pt_12 6 64 rfl b6 (by decide), show bor 19 (al 3) = 4115 from rfl]
          ac_rfl
        · simp only [if_neg h0] at c2
          cases c2
      simp only [if_neg h1] at c2 ⊢
      by_cases h5 : fd a 14 12 = 5
      · simp only [if_pos h5] at c2 ⊢
        by_cases h0 : fd a 31 26 = 0
        · simp only [if_pos h0]
          show bor (bor (bor (bor 19 (al 7)) (pt (fd a 11 7) 5 7)) (pt (fd a 19 15) 5 15)) (pt (fd a 25 20) 12 20) = bor (bor 20499 (pt (fd a 25 20) 6 20)) (regW (fd a 11 7) (fd a 19 15) 0)
          rw [reg2, pt_12 6 64 rfl b6 (by decide), show bor 19 (al 7) = 20499 from rfl]
          ac_rfl
        simp only [if_neg h0] at c2 ⊢
        by_cases h6 : fd a 31 26 = 16
        · simp only [if_pos h6]
          show bor (bor (bor (bor 19 (al 8)) (pt (fd a 11 7) 5 7)) (pt (fd a 19 15) 5 15)) (pt (fd a 25 20) 12 20) = bor (bor 1073762323 (pt (fd a 25 20) 6 20)) (regW (fd a 11 7) (fd a 19 15) 0)
          rw [reg2, pt_12 6 64 rfl b6 (by decide), show bor 19 (al 8) = 1073762323 from rfl]
          ac_rfl
        · simp only [if_neg h6] at c2
          cases c2
      simp only [if_neg h5]
      have hx : pk imL (fd a 14 12) = 1 ∨ pk imL (fd a 14 12) = 4 ∨ pk imL (fd a 14 12) = 5 ∨ pk imL (fd a 14 12) = 6 ∨ pk imL (fd a 14 12) = 9 ∨ pk imL (fd a 14 12) = 10 := by
        generalize fd a 14 12 = x at *
        obtain h | h | h | h | h | h : x = 0 ∨ x = 2 ∨ x = 3 ∨ x = 4 ∨ x = 6 ∨ x = 7 := by omega
        all_goals (subst h; decide)
      show wordP ⟨9, pk imL (fd a 14 12), _, _, 0, _, 0, false⟩ = encP ⟨9, pk imL (fd a 14 12), _, _, 0, _, 0, false⟩
      generalize pk imL (fd a 14 12) = f at *
      rcases hx with h | h | h | h | h | h
      all_goals
        subst h
        show bor (bor (bor (bor 19 (pt _ 3 12)) (pt (fd a 11 7) 5 7)) (pt (fd a 19 15) 5 15)) (pt (immI a) 12 20) = bor (bor (bor 19 (pt (immI a) 12 20)) (pt _ 3 12)) (regW (fd a 11 7) (fd a 19 15) 0)
        rw [reg2]
        exact (by ac_rfl : bor (bor (bor (bor 19 (pt _ 3 12)) (pt (fd a 11 7) 5 7)) (pt (fd a 19 15) 5 15)) (pt (immI a) 12 20) = bor (bor (bor 19 (pt (immI a) 12 20)) (pt _ 3 12)) (bor (pt (fd a 11 7) 5 7) (pt (fd a 19 15) 5 15)))
    · cases h
  rcases ite_some h with ⟨_, h⟩ | ⟨_, h⟩
  · rcases ite_some h with ⟨c2, h⟩ | ⟨_, h⟩
    · injection h with h; subst h
      clear hf
      unfold im1b at c2 ⊢
      by_cases h0 : fd a 14 12 = 0
      · simp only [if_pos h0]
        show bor (bor (bor (bor 27 (al 19)) (pt (fd a 11 7) 5 7)) (pt (fd a 19 15) 5 15)) (pt (immI a) 12 20) = bor (bor 27 (pt (immI a) 12 20)) (regW (fd a 11 7) (fd a 19 15) 0)
        rw [reg2, show bor 27 (al 19) = 27 from rfl]
        ac_rfl
      simp only [if_neg h0] at c2 ⊢
      by_cases h1 : fd a 14 12 = 1
      · simp only [if_pos h1] at c2 ⊢
        by_cases hs : fd a 31 25 = 0
        · simp only [if_pos hs]
          show bor (bor (bor (bor 27 (al 21)) (pt (fd a 11 7) 5 7)) (pt (fd a 19 15) 5 15)) (pt (fd a 24 20) 12 20) = bor (bor 4123 (pt (fd a 24 20) 5 20)) (regW (fd a 11 7) (fd a 19 15) 0)
          rw [reg2, pt_12 5 32 rfl b3 (by decide), show bor 27 (al 21) = 4123 from rfl]
          ac_rfl
        · simp only [if_neg hs] at c2
          cases c2
      simp only [if_neg h1] at c2 ⊢
      by_cases h5 : fd a 14 12 = 5
      · simp only [if_pos h5] at c2 ⊢
        by_cases hs : fd a 31 25 = 0
        · simp only [if_pos hs]
          show bor (bor (bor (bor 27 (al 22)) (pt (fd a 11 7) 5 7)) (pt (fd a 19 15) 5 15)) (pt (fd a 24 20) 12 20) = bor (bor 20507 (pt (fd a 24 20) 5 20)) (regW (fd a 11 7) (fd a 19 15) 0)
          rw [reg2, pt_12 5 32 rfl b3 (by decide), show bor 27 (al 22) = 20507 from rfl]
          ac_rfl
        simp only [if_neg hs] at c2 ⊢
        by_cases h6 : fd a 31 25 = 32
        · simp only [if_pos h6]
          show bor (bor (bor (bor 27 (al 23)) (pt (fd a 11 7) 5 7)) (pt (fd a 19 15) 5 15)) (pt (fd a 24 20) 12 20) = bor (bor 1073762331 (pt (fd a 24 20) 5 20)) (regW (fd a 11 7) (fd a 19 15) 0)
          rw [reg2, pt_12 5 32 rfl b3 (by decide), show bor 27 (al 23) = 1073762331 from rfl]
          ac_rfl
        · simp only [if_neg h6] at c2
          cases c2
      · simp only [if_neg h5] at c2
        cases c2
    · cases h
  rcases ite_some h with ⟨_, h⟩ | ⟨_, h⟩
  · rcases ite_some h with ⟨_, h⟩ | ⟨c, h⟩
    · cases h
    · injection h with h; subst h
      exact word_alu hf c
  rcases ite_some h with ⟨_, h⟩ | ⟨_, h⟩
  · rcases ite_some h with ⟨_, h⟩ | ⟨c, h⟩
    · cases h
    · injection h with h; subst h
      exact word_alu hf c
  rcases ite_some h with ⟨_, h⟩ | ⟨_, h⟩
  · rcases ite_some h with ⟨c, h⟩ | ⟨_, h⟩
    · injection h with h; subst h; rfl
    · cases h
  rcases ite_some h with ⟨_, h⟩ | ⟨_, h⟩
  · unfold sysD at h
    rcases ite_some h with ⟨c, h⟩ | ⟨_, h⟩
    · injection h with h; subst h; rfl
    rcases ite_some h with ⟨c, h⟩ | ⟨_, h⟩
    · injection h with h; subst h; rfl
    rcases ite_some h with ⟨c, h⟩ | ⟨_, h⟩
    · injection h with h; subst h; rfl
    rcases ite_some h with ⟨c, h⟩ | ⟨_, h⟩
    · injection h with h; subst h; rfl
    rcases ite_some h with ⟨_, h⟩ | ⟨_, h⟩
    · rcases ite_some h with ⟨c, h⟩ | ⟨_, h⟩
      · injection h with h; subst h
        show bor (bor 301990003 (pt (fd a 19 15) 5 15)) (pt (fd a 24 20) 5 20) = bor 301990003 (regW 0 (fd a 19 15) (fd a 24 20))
        rw [reg3]
        ac_rfl
      · cases h
    rcases ite_some h with ⟨_, h⟩ | ⟨_, h⟩
    · cases h
    · injection h with h; subst h
      by_cases hx : fd a 14 12 < 4
      · rw [if_pos hx]
        show bor (bor (bor (bor 115 (pt _ 2 12)) (pt (fd a 11 7) 5 7)) (pt (fd a 19 15) 5 15)) _ = bor (bor (bor 115 (bits .and .u32 (regW (fd a 11 7) (fd a 19 15) 0) 1048575)) _) _
        rw [and_reg b1 b2]
        ac_rfl
      · rw [if_neg hx]
        show bor (bor (bor (bor 16499 (pt _ 2 12)) (pt (fd a 11 7) 5 7)) (pt (fd a 19 15) 5 15)) _ = bor (bor (bor 16499 (bits .and .u32 (regW (fd a 11 7) (fd a 19 15) 0) 1048575)) _) _
        rw [and_reg b1 b2]
        ac_rfl
  rcases ite_some h with ⟨_, h⟩ | ⟨_, h⟩
  · unfold atD at h
    rcases ite_some h with ⟨hx, h⟩ | ⟨_, h⟩
    · rcases ite_some h with ⟨c, h⟩ | ⟨_, h⟩
      · injection h with h; subst h
        obtain ⟨z, hz⟩ : ∃ z : Int, (if fd a 14 12 = 2 then 4 else 8) = z := ⟨_, rfl⟩
        have hz4 : z = 4 ∨ z = 8 := by
          rw [← hz]; split
          · exact .inl rfl
          · exact .inr rfl
        rw [hz]
        have e := sz_at hz4
        clear hf hx hz
        unfold atF at c ⊢
        by_cases h2 : fd a 31 27 = 2
        · simp only [if_pos h2] at c ⊢
          have hr : fd a 24 20 = 0 := by simpa using c
          rw [hr]
          show bor (bor (bor 268435503 (pk szL z * 4096)) (pt (fd a 11 7) 5 7)) (pt (fd a 19 15) 5 15) = bor (bor 268435503 (regW (fd a 11 7) (fd a 19 15) 0)) (pt (ix at2 z + 2) 3 12)
          rw [reg2, e]
          ac_rfl
        simp only [if_neg h2] at c ⊢
        by_cases h3 : fd a 31 27 = 3
        · simp only [if_pos h3]
          show bor (bor 402653231 (pk szL z * 4096)) (regW (fd a 11 7) (fd a 19 15) (fd a 24 20)) = bor (bor 402653231 (regW (fd a 11 7) (fd a 19 15) (fd a 24 20))) (pt (ix at2 z + 2) 3 12)
          rw [e]
          ac_rfl
        simp only [if_neg h3] at c ⊢
        have key : ∀ f : Int, (1 ≤ f ∧ f < 10) → wordP ⟨17, f, fd a 11 7, fd a 19 15, fd a 24 20, 0, z, false⟩ = encP ⟨17, f, fd a 11 7, fd a 19 15, fd a 24 20, 0, z, false⟩ := by
          intro f hf
          obtain ⟨y, hy⟩ := fin_of (n := 10) (x := f) (by omega)
          have e2 := am_w y (by intro h0; rw [h0] at hy; omega)
          rw [hy] at e2
          show bor (bor (bor 47 (pt (pk amW f) 5 27)) (pk szL z * 4096)) (regW (fd a 11 7) (fd a 19 15) (fd a 24 20)) = bor (bor (bor 47 (regW (fd a 11 7) (fd a 19 15) (fd a 24 20))) (pt (ix at2 z + 2) 3 12)) (pt (ix amL f) 5 27)
          rw [e, e2]
          ac_rfl
        by_cases h1 : fd a 31 27 = 1
        · simp only [if_pos h1]
          exact key 1 (by decide)
        simp only [if_neg h1] at c ⊢
        by_cases h4 : fd a 31 27 % 4 = 0
        · simp only [if_pos h4]
          refine key _ ?_
          have b5 := fd_lit (a := a) (h := 31) (l := 27) (n := 32) rfl
          generalize fd a 31 27 = f at *
          obtain h | h | h | h | h | h | h | h : f = 0 ∨ f = 4 ∨ f = 8 ∨ f = 12 ∨ f = 16 ∨ f = 20 ∨ f = 24 ∨ f = 28 := by omega
          all_goals (subst h; decide)
        · simp only [if_neg h4] at c
          cases c
      · cases h
    · cases h
  · cases h
end Go.Proofs.YthkodjkkcgdmfaaGreat.Enc
end
section
namespace Go.Proofs.YthkodjkkcgdmfaaGreat.Enc
open Go Go.RowKit Go.Proofs.YthkodjkkcgdmfaaGreat.Step
set_option linter.unusedVariables false
set_option linter.unusedSimpArgs false
set_option maxRecDepth 100000
theorem rDec_115_18 (w : World) : Calls Tryz.prog 45 #[.int .u32 270532723] w fun e w' => e = .returned (told (dec 270532723)) ∧ Below w.heap.size w w' := by
  have hop : fd 270532723 6 0 = 115 := by kernel_rfl
  unfold dec
  rw [hop, show decOp 115 270532723 = sysD 270532723 from by simp [decOp]]
  refine rdec_115_of 270532723 ⟨by decide, by decide⟩ hop (sysD 270532723) (Lib.hid fun w => ?_) w
  rw [show sysD 270532723 = some ⟨18, 0, 0, 0, 0, 0, 0, false⟩ from by simp [sysD]]
  exact rsystem_18 (fd 270532723 14 12) (fd 270532723 31 25) (fd 270532723 11 7) (fd 270532723 19 15) (fd 270532723 24 20) w
theorem rDec_115_19 (w : World) : Calls Tryz.prog 45 #[.int .u32 273678451] w fun e w' => e = .returned (told (dec 273678451)) ∧ Below w.heap.size w w' := by
  have hop : fd 273678451 6 0 = 115 := by kernel_rfl
  unfold dec
  rw [hop, show decOp 115 273678451 = sysD 273678451 from by simp [decOp]]
  refine rdec_115_of 273678451 ⟨by decide, by decide⟩ hop (sysD 273678451) (Lib.hid fun w => ?_) w
  rw [show sysD 273678451 = some ⟨19, 0, 0, 0, 0, 0, 0, false⟩ from by simp [sysD]]
  exact rsystem_19 (fd 273678451 14 12) (fd 273678451 31 25) (fd 273678451 11 7) (fd 273678451 19 15) (fd 273678451 24 20) w
theorem rDec_115_any (a : Int) (ha : W32 a) (h : fd a 6 0 = 115) (n0 : a ≠ 115) (n1 : a ≠ 1048691) (n2 : a ≠ 270532723) (n3 : a ≠ 273678451) (w : World) : Calls Tryz.prog 45 #[.int .u32 a] w fun e w' => e = .returned (told (dec a)) ∧ Below w.heap.size w w' := by
  have hx := fd_lit (a := a) (h := 14) (l := 12) (n := 8) rfl
  unfold dec
  rw [h, show decOp 115 a = sysD a from by simp [decOp]]
  refine rdec_115_of a ha h (sysD a) (Lib.hid fun w => ?_) w
  rw [show sysD a = sysF (fd a 14 12) (fd a 31 25) (fd a 11 7) (fd a 19 15) (fd a 24 20) (fd a 31 20) from by simp only [sysD, sysF, if_neg n0, if_neg n1, if_neg n2, if_neg n3]]
  exact rsystem_any a _ _ _ _ _ ha n0 n1 n2 n3 hx w
end Go.Proofs.YthkodjkkcgdmfaaGreat.Enc
end
