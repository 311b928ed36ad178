/- The plain law WordExtends: what the printed function answers is true at every input (proved in YtmfbijfghonnjaaLawsB). -/
import Derived.Test.YtmfbijfghonnjaaPAx7
import Derived.Test.YtmfbijfghonnjaaLawsB
namespace Go.Proofs.Ytmfbijfghonnjaa.Pure
open Go.Proofs.Ytmfbijfghonnjaa.PA
theorem WordExtends : citadellaw01_WordExtends.Pure := Go.Proofs.Ytmfbijfghonnjaa.LawsB.WordExtends
end Go.Proofs.Ytmfbijfghonnjaa.Pure
