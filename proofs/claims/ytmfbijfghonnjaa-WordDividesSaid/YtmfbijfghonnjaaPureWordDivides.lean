/- The plain law WordDivides: what the printed function answers is true at every input (proved in YtmfbijfghonnjaaLawsC). -/
import Derived.Test.YtmfbijfghonnjaaPAx6
import Derived.Test.YtmfbijfghonnjaaLawsC
namespace Go.Proofs.Ytmfbijfghonnjaa.Pure
open Go.Proofs.Ytmfbijfghonnjaa.PA
theorem WordDivides : citadellaw01_WordDivides.Pure := Go.Proofs.Ytmfbijfghonnjaa.LawsC.WordDivides
end Go.Proofs.Ytmfbijfghonnjaa.Pure
