/- HashTexts: for every text hash.Of is the document's hash, within 32 bits, and a byte more goes on from it. -/
import Derived.Test.YtlmmhlabacghnaaHM1
namespace Go.Proofs.Ytlmmhlabacghnaa.Pure
theorem HashTexts : PH.trestlelaw04_HashTexts.Pure := HM.hashTexts
end Go.Proofs.Ytlmmhlabacghnaa.Pure
