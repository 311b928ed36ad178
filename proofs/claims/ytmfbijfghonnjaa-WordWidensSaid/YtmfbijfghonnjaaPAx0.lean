/- What the program's functions answer, call by call, and the row of a law; no conditions beyond each theorem's own. Written by a program of this repo (xprint.py, over the kit's printer, with contracts of the session's own). Lean checks it. -/
import Derived.Test.YtmfbijfghonnjaaProg
import Derived.Below
import Derived.Deep.Draws
import Derived.Deep.AppendLies
import Derived.Maps.AppendAt
import Derived.OwnWalk
import Derived.Laws.BytesArg
import Derived.Laws.MakeOwn
import Derived.Laws.OwnMore
import Derived.Deep.OwnRows
import Derived.Tactics
import Derived.Lib.ConvBytes
import Derived.Laws.Slices
import Derived.WalkKit
import Derived.KernelRfl
import Derived.RowKit3
import Derived.Deep.LoopGhost
import Derived.Deep.QuietTactic
import Derived.BigQuiet
import Derived.WideLaws
import Derived.Deep.DeepCutAuto
import Derived.Deep.CutBlock
import Derived.Deep.RegionHeld3
import Derived.Laws.Rows
import Derived.Lib.AppendStr
import Derived.ArgAppend
import Derived.Laws.IdiomCopy
import Derived.OrdersHeld
import Derived.Laws.BitsLemmas
import Derived.RowKit
import Derived.Test.YtmfbijfghonnjaaWWords
import Derived.Test.YtmfbijfghonnjaaWLast
import Derived.Test.YtmfbijfghonnjaaWTab
import Derived.Test.YtmfbijfghonnjaaWFour
import Derived.Test.YtmfbijfghonnjaaWQPut
import Derived.Test.YtmfbijfghonnjaaWApart
import Derived.Test.YtmfbijfghonnjaaWArr
import Derived.Test.YtmfbijfghonnjaaWZeros
import Derived.Test.YtmfbijfghonnjaaWFoot
import Derived.Test.YtmfbijfghonnjaaWKept
import Derived.Test.YtmfbijfghonnjaaWShare
import Derived.Test.YtmfbijfghonnjaaWN
import Derived.Test.YtmfbijfghonnjaaWFootNe
import Derived.Test.YtmfbijfghonnjaaWAt
import Derived.Test.YtmfbijfghonnjaaWEqStruct
import Derived.Test.YtmfbijfghonnjaaWRepsOne
import Derived.Test.YtmfbijfghonnjaaWInv
import Derived.Test.YtmfbijfghonnjaaWInvWords
import Derived.Test.YtmfbijfghonnjaaWGuard
import Derived.Test.YtmfbijfghonnjaaWNEv
import Derived.Test.YtmfbijfghonnjaaWMore
namespace Go.Proofs.Ytmfbijfghonnjaa.PA
open Go.RowKit Go.Proofs.YtmfbijfghonnjaaW.PrintWords Go.Proofs.YtmfbijfghonnjaaW.PrintLast Go.Proofs.YtmfbijfghonnjaaW.PrintMore
attribute [local go_sem] max2_int min2_int max_two min_two max_three min_three max_four min_four   -- for this text's walks alone
set_option linter.unusedVariables false
set_option linter.unusedSimpArgs false



def errW : Option Int → Value
  | none => .nilIface
  | some c => .iface 0 (.int .i64 c)
theorem errW_none : errW none = .nilIface := rfl
theorem errW_some (c : Int) : errW (some c) = .iface 0 (.int .i64 c) := rfl

theorem info3 : (Try.prog.info? 3).map (fun i => (i.zero, i.size, i.bytes)) = some (some (.int .i64 0), 1, 8) := by kernel_rfl
-- the values' own types

end Go.Proofs.Ytmfbijfghonnjaa.PA
