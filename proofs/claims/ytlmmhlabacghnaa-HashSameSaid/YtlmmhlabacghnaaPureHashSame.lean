/- HashSame: numbers that are size - 1 apart meet, and their neighbours do not; for every two numbers. -/
import Derived.Test.YtlmmhlabacghnaaHM4
namespace Go.Proofs.Ytlmmhlabacghnaa.Pure
theorem HashSame : PH.trestlelaw04_HashSame.Pure := fun a0 a1 _ _ => HM.hashSame a0 a1
end Go.Proofs.Ytlmmhlabacghnaa.Pure
