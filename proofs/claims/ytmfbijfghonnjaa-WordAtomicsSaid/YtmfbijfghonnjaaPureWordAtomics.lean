/- The plain law WordAtomics: what the printed function answers is true at every input (proved in YtmfbijfghonnjaaLawsB). -/
import Derived.Test.YtmfbijfghonnjaaPAx10
import Derived.Test.YtmfbijfghonnjaaLawsB
namespace Go.Proofs.Ytmfbijfghonnjaa.Pure
open Go.Proofs.Ytmfbijfghonnjaa.PA
theorem WordAtomics : citadellaw01_WordAtomics.Pure := Go.Proofs.Ytmfbijfghonnjaa.LawsB.WordAtomics
end Go.Proofs.Ytmfbijfghonnjaa.Pure
