/- The plain law WordProducts: what the printed function answers is true at every input (proved in YtmfbijfghonnjaaLaws). -/
import Derived.Test.YtmfbijfghonnjaaPAx6
import Derived.Test.YtmfbijfghonnjaaLaws
namespace Go.Proofs.Ytmfbijfghonnjaa.Pure
open Go.Proofs.Ytmfbijfghonnjaa.PA
theorem WordProducts : citadellaw01_WordProducts.Pure := Go.Proofs.Ytmfbijfghonnjaa.Laws.WordProducts
end Go.Proofs.Ytmfbijfghonnjaa.Pure
