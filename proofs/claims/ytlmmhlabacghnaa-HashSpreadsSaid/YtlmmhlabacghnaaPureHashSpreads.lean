/- HashSpreads: s consecutive numbers of one sign fall on at least s - 1 of s positions, s a power of two up to 512; for every two numbers. -/
import Derived.Test.YtlmmhlabacghnaaHM5
namespace Go.Proofs.Ytlmmhlabacghnaa.Pure
theorem HashSpreads : PH.trestlelaw04_HashSpreads.Pure := fun a0 a1 h _ => HM.hashSpreads a0 a1 h
end Go.Proofs.Ytlmmhlabacghnaa.Pure
