/- HashHalves: a text's place among half as many nodes is its place modulo that; for every text and number. -/
import Derived.Test.YtlmmhlabacghnaaHM4
namespace Go.Proofs.Ytlmmhlabacghnaa.Pure
theorem HashHalves : PH.trestlelaw04_HashHalves.Pure := fun a0 a1 _ _ => HM.hashHalves a0 a1
end Go.Proofs.Ytlmmhlabacghnaa.Pure
