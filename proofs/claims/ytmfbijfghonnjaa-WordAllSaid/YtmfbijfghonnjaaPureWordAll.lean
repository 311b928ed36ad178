/- The plain law WordAll: what the printed function answers is true at every input (proved in YtmfbijfghonnjaaLaws). -/
import Derived.Test.YtmfbijfghonnjaaPAx5
import Derived.Test.YtmfbijfghonnjaaLaws
namespace Go.Proofs.Ytmfbijfghonnjaa.Pure
open Go.Proofs.Ytmfbijfghonnjaa.PA
theorem WordAll : citadellaw01_WordAll.Pure := Go.Proofs.Ytmfbijfghonnjaa.Laws.WordAll
end Go.Proofs.Ytmfbijfghonnjaa.Pure
