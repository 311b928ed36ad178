/- What the program's functions answer, call by call, and the row of a law; no conditions beyond each theorem's own. Written by a program of this repo (xprint.py, over the kit's printer, with contracts of the session's own). Lean checks it. -/
import Derived.Test.YtmfbijfghonnjaaPAx0
import Derived.Test.YtmfbijfghonnjaaPAx1
import Derived.Test.YtmfbijfghonnjaaPAx2
import Derived.Test.YtmfbijfghonnjaaPAx3
import Derived.Test.YtmfbijfghonnjaaPAx4
import Derived.Test.YtmfbijfghonnjaaPAx5
import Derived.Test.YtmfbijfghonnjaaPAx6
import Derived.Test.YtmfbijfghonnjaaPAx7
import Derived.Test.YtmfbijfghonnjaaPAx8
import Derived.Test.YtmfbijfghonnjaaPAx9
import Derived.Test.YtmfbijfghonnjaaPAx10
namespace Go.Proofs.Ytmfbijfghonnjaa.PA
open Go.RowKit Go.Proofs.YtmfbijfghonnjaaW.PrintWords Go.Proofs.YtmfbijfghonnjaaW.PrintLast Go.Proofs.YtmfbijfghonnjaaW.PrintMore
attribute [local go_sem] max2_int min2_int max_two min_two max_three min_three max_four min_four   -- for this text's walks alone
set_option linter.unusedVariables false
set_option linter.unusedSimpArgs false

end Go.Proofs.Ytmfbijfghonnjaa.PA
