/- The plain law WordShifts: what the printed function answers is true at every input (proved in YtmfbijfghonnjaaLawsC). -/
import Derived.Test.YtmfbijfghonnjaaPAx7
import Derived.Test.YtmfbijfghonnjaaLawsC
namespace Go.Proofs.Ytmfbijfghonnjaa.Pure
open Go.Proofs.Ytmfbijfghonnjaa.PA
theorem WordShifts : citadellaw01_WordShifts.Pure := Go.Proofs.Ytmfbijfghonnjaa.LawsC.WordShifts
end Go.Proofs.Ytmfbijfghonnjaa.Pure
