/- Parts of the walks and laws for the claim: DecR; no conditions beyond the theorems' own. -/
import Derived.Test.YtchpnbckgofiaaaGreatQ13
section
namespace Go.Proofs.YtchpnbckgofiaaaGreat.Enc
open Go Go.RowKit Go.Proofs.YtchpnbckgofiaaaGreat.Step
set_option linter.unusedVariables false
set_option linter.unusedSimpArgs false
set_option maxRecDepth 100000
theorem rsystem_12 (x s rd rs1 rs2 : Int) (w : World) : Calls Tryz.prog 124 #[.int .u32 1048691, .int .i64 x, .int .i64 s, .int .i64 rd, .int .i64 rs1, .int .i64 rs2] w fun e w' => e = .returned (told (some ⟨12, 0, 0, 0, 0, 0, 0, false⟩)) ∧ Below w.heap.size w w' := by
  go_enter Tryz.func124, Tryz.ntmps124
  go_wp2_with (first
 | (refine Step.freshAlloc rfl rfl (alloc_agg zero_inst) ?_; intro g1 w1 b hg hb; have ST := Lib.hid (S1.made b hg hb); clear b hg hb)
 | (refine Step.storeAll ST.out.one rfl rfl rfl rfl rfl size_inst rfl rfl ?_; intro w3 nb m; replace ST := Lib.hid (ST.out.set1 nb m); clear nb m))
  refine bodyPost_ret (results_row_tmp rfl _ _ g1 _ _ _ rfl ST.out.one Tryz.underlying85 rfl size_inst) rfl ⟨rfl, ST.out.below⟩
end Go.Proofs.YtchpnbckgofiaaaGreat.Enc
end
