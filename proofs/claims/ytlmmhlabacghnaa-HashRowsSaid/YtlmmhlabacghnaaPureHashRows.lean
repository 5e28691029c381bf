/- HashRows: for any three numbers hash.Row answers the document's row of main positions, or its error. -/
import Derived.Test.YtlmmhlabacghnaaHM3
namespace Go.Proofs.Ytlmmhlabacghnaa.Pure
theorem HashRows : PH.trestlelaw04_HashRows.Pure := fun a0 a1 a2 _ _ h => HM.hashRows a0 a1 a2 h
end Go.Proofs.Ytlmmhlabacghnaa.Pure
