/- The plain law WordAlus: what the printed function answers is true at every input (proved in YtmfbijfghonnjaaLaws). -/
import Derived.Test.YtmfbijfghonnjaaPAx5
import Derived.Test.YtmfbijfghonnjaaLaws
namespace Go.Proofs.Ytmfbijfghonnjaa.Pure
open Go.Proofs.Ytmfbijfghonnjaa.PA
theorem WordAlus : citadellaw01_WordAlus.Pure := Go.Proofs.Ytmfbijfghonnjaa.Laws.WordAlus
end Go.Proofs.Ytmfbijfghonnjaa.Pure
