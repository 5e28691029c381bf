/- RunesLines: in every text (its first 300 bytes) a place goes on rune by rune: the column by one, behind a newline to the next line's first. -/
import Derived.Test.YtlmmhlabacghnaaRL
namespace Go.Proofs.Ytlmmhlabacghnaa.Pure
theorem RunesLines : PR.trestlelaw01_RunesLines.Pure := fun a0 _ => RL.runesLines a0
end Go.Proofs.Ytlmmhlabacghnaa.Pure
