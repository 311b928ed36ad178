/- The plain law WordAmos: what the printed function answers is true at every input (proved in YtmfbijfghonnjaaLaws). -/
import Derived.Test.YtmfbijfghonnjaaPAx5
import Derived.Test.YtmfbijfghonnjaaLaws
namespace Go.Proofs.Ytmfbijfghonnjaa.Pure
open Go.Proofs.Ytmfbijfghonnjaa.PA
theorem WordAmos : citadellaw01_WordAmos.Pure := Go.Proofs.Ytmfbijfghonnjaa.Laws.WordAmos
end Go.Proofs.Ytmfbijfghonnjaa.Pure
