/- The plain law WordBranches: what the printed function answers is true at every input (proved in YtmfbijfghonnjaaLaws). -/
import Derived.Test.YtmfbijfghonnjaaPAx8
import Derived.Test.YtmfbijfghonnjaaLaws
namespace Go.Proofs.Ytmfbijfghonnjaa.Pure
open Go.Proofs.Ytmfbijfghonnjaa.PA
theorem WordBranches : citadellaw01_WordBranches.Pure := Go.Proofs.Ytmfbijfghonnjaa.Laws.WordBranches
end Go.Proofs.Ytmfbijfghonnjaa.Pure
