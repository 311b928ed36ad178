/- The plain law WordHalves: what the printed function answers is true at every input (proved in YtmfbijfghonnjaaLawsB). -/
import Derived.Test.YtmfbijfghonnjaaPAx7
import Derived.Test.YtmfbijfghonnjaaLawsB
namespace Go.Proofs.Ytmfbijfghonnjaa.Pure
open Go.Proofs.Ytmfbijfghonnjaa.PA
theorem WordHalves : citadellaw01_WordHalves.Pure := Go.Proofs.Ytmfbijfghonnjaa.LawsB.WordHalves
end Go.Proofs.Ytmfbijfghonnjaa.Pure
