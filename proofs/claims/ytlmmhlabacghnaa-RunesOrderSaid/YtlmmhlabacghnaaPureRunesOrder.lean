/- RunesOrder: code points and their encodings have one order, byte by byte, and unlike ones are unlike; for every two numbers. -/
import Derived.Test.YtlmmhlabacghnaaRO
namespace Go.Proofs.Ytlmmhlabacghnaa.Pure
theorem RunesOrder : PR.trestlelaw01_RunesOrder.Pure := fun a0 a1 _ _ => RO.runesOrder a0 a1
end Go.Proofs.Ytlmmhlabacghnaa.Pure
