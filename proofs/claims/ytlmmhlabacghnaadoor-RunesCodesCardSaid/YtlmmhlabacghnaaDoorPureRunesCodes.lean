/- RunesCodes: the plain law, for the row. -/
import Derived.Test.YtlmmhlabacghnaaDoorRC
namespace Go.Proofs.YtlmmhlabacghnaaDoor.Pure
theorem RunesCodes : PR.trestlelaw01_RunesCodes.Pure := fun a _ => RC.runesCodes a
end Go.Proofs.YtlmmhlabacghnaaDoor.Pure
