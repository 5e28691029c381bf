/- HashAgain: hash.Row asked twice answers the same, in new memory: writing into one answer leaves the other. -/
import Derived.Test.YtlmmhlabacghnaaHM3
namespace Go.Proofs.Ytlmmhlabacghnaa.Pure
theorem HashAgain : PH.trestlelaw04_HashAgain.Pure := fun a0 a1 a2 _ _ h => HM.hashAgain a0 a1 a2 h
end Go.Proofs.Ytlmmhlabacghnaa.Pure
