/- The plain law WordWidens: what the printed function answers is true at every input (proved in YtmfbijfghonnjaaLawsB). -/
import Derived.Test.YtmfbijfghonnjaaPAx8
import Derived.Test.YtmfbijfghonnjaaLawsB
namespace Go.Proofs.Ytmfbijfghonnjaa.Pure
open Go.Proofs.Ytmfbijfghonnjaa.PA
theorem WordWidens : citadellaw01_WordWidens.Pure := Go.Proofs.Ytmfbijfghonnjaa.LawsB.WordWidens
end Go.Proofs.Ytmfbijfghonnjaa.Pure
