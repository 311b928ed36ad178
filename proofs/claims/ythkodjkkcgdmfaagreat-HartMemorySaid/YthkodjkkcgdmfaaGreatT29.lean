/- Parts of the walks and laws for the claim: RowI; no conditions beyond the theorems' own. -/
import Derived.Test.YthkodjkkcgdmfaaGreatT26
import Derived.Test.YthkodjkkcgdmfaaGreatT28
section
namespace Go.Proofs.YthkodjkkcgdmfaaGreat.Hart
open Go Go.RowKit Go.Proofs.YthkodjkkcgdmfaaGreat.Step
set_option linter.unusedVariables false
theorem memory_row (h : Hrt) (size at_ v : Int) (sg : Bool) (W : World) (hf : Fit h) (h1 : (Lit.int .i64 size).wf = true) (h2 : (Lit.int .i64 at_).wf = true) (hv : (Lit.int .u64 v).wf = true) : Calls Tryz.prog 9 #[.agg (Hart.hc h), .int .i64 size, .int .i64 at_, .int .u64 v, .bool sg] W fun e w' => e = .returned (.bool true) ∧ Below W.heap.size W w' :=
  memories_any h hf size at_ v sg (by have := bounds_i64 h1; omega) (by have := bounds_i64 h2; omega) (bd_u64 hv) W
end Go.Proofs.YthkodjkkcgdmfaaGreat.Hart
end
