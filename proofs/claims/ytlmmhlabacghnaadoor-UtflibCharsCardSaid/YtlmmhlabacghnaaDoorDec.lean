/- utf8.DecodeRuneInString by the shelf's contract: what it needs of the world: the library's two tables. -/
import Derived.Test.YtlmmhlabacghnaaDoorPRx0
import Derived.Test.YtlmmhlabacghnaaDoorShelf
import Derived.Lib.Hide
namespace Go.Proofs.YtlmmhlabacghnaaDoor.PR
open Go.RowKit
set_option linter.unusedVariables false
theorem cell_kept {w w' : World} (hb : Below w.heap.size w w') {a : Addr} {v : Value} (hc : w.cell? a = some v) : w'.cell? a = some v := by
  rw [hb.cell (World.block_lt_of_cell? w a hc)]
  exact hc
theorem tab_step {w w' : World} (h : RowKit.Hid (Lib.Utf8Tabs 0 1 w)) (hb : Below w.heap.size w w') : RowKit.Hid (Lib.Utf8Tabs 0 1 w') := by
  obtain ⟨h1, h2⟩ := h.out
  exact Lib.hid ⟨fun c hc => cell_kept hb (h1 c hc), fun i hi => ⟨cell_kept hb (h2 i hi).1, cell_kept hb (h2 i hi).2⟩⟩
def utf8_DecodeRuneInString.f (a0 : ByteArray) : Option (Int × Int) := some (((Lib.decodeGo a0).1 : Int), ((Lib.decodeGo a0).2 : Int))
theorem utf8_DecodeRuneInString.calls (a0 : ByteArray) (r1 r2 : Int) (w : World) (h : utf8_DecodeRuneInString.f a0 = some (r1, r2)) (HT_ : RowKit.Hid (Lib.Utf8Tabs 0 1 w)) :
    Calls Tryd.prog 47 #[.string a0] w fun e w' => e = .returned (.tuple #[.int .i32 r1, .int .i64 r2]) ∧ Below w.heap.size w w' := by
  unfold utf8_DecodeRuneInString.f at h
  simp only [Option.some.injEq, Prod.mk.injEq] at h
  obtain ⟨rfl, rfl⟩ := h
  exact Tryd.utf8_DecodeRuneInString a0 w HT_.out
end Go.Proofs.YtlmmhlabacghnaaDoor.PR
