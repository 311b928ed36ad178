/- The plain law WordOrders: what the printed function answers is true at every input (proved in YtmfbijfghonnjaaLawsB). -/
import Derived.Test.YtmfbijfghonnjaaPAx9
import Derived.Test.YtmfbijfghonnjaaLawsB
namespace Go.Proofs.Ytmfbijfghonnjaa.Pure
open Go.Proofs.Ytmfbijfghonnjaa.PA
theorem WordOrders : citadellaw01_WordOrders.Pure := Go.Proofs.Ytmfbijfghonnjaa.LawsB.WordOrders
end Go.Proofs.Ytmfbijfghonnjaa.Pure
